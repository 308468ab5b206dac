/-
 Contracts for convex sets: sums of any sets.
-/
import Derived.Test.YtdkkjfnpinckjaaGreatDoorYMp
import Derived.Test.YtdkkjfnpinckjaaGreatDoorYHuA
set_option maxRecDepth 100000
set_option linter.unusedSimpArgs false
set_option linter.unusedVariables false
namespace Go.Proofs.YtdkkjfnpinckjaaGreatDoor
open Go Go.RowKit

theorem csum_any {S : Nat} (va vb : Value) (a b : List (Rat × Rat)) (w : World) (ha : PV w va a) (hb : PV w vb b) (hsa : ∀ q ∈ a, Pl.SzP S q) (hsb : ∀ q ∈ b, Pl.SzP S q) (hna : a.length ≤ 1000) (hnb : b.length ≤ 1000) (hS : S ≤ 40000) :
 Calls Tryz.prog 24 #[va, vb] w fun e w' => ∃ v', e = .returned v' ∧ PV w' v' (Pl.wrap (sumL a b)) ∧ Below w.heap.size w w' := by
 have HZ := Lib.hid (sumL_sz hsa hsb)
 have HQ : Hid ((sumL a b).length ≤ 1000000) := Lib.hid (by rw [sumL_length]; exact Nat.le_trans (Nat.mul_le_mul hna hnb) (by decide))
 obtain ⟨Aa, ca, rfl, hca, hma, hxa⟩ := ha.open_
 have HVA := Lib.hid ha
 have HXA := Lib.hid hxa
 have HSA := Lib.hid hsa
 obtain ⟨Ab, cb, rfl, hcb, hmb, hxb⟩ := hb.open_
 have HVB := Lib.hid hb
 have HXB := Lib.hid hxb
 have HSB := Lib.hid hsb
 have HFA : Hid (a.take a.length = a) := Lib.hid List.take_length
 generalize hNa : a.length = Na at *
 have HNA := Lib.hid hNa
 clear ha hxa hsa hNa
 have HFB : Hid (b.take b.length = b) := Lib.hid List.take_length
 generalize hNb : b.length = Nb at *
 have HNB := Lib.hid hNb
 clear hb hxb hsb hNb
 go_enter Tryz.func24, Tryz.ntmps24
 go_wp2_with fail
 go_loopw [5, 12] (fun s5 s12 wr => ∃ (k : Nat) (n : Nat) (L : List (Rat × Rat)), s12 = .int .i64 k ∧ wr.ownsRow w.heap.size 35 8 s5 n (pts L) ∧ Below w.heap.size w wr ∧ k ≤ Na ∧ n ≤ 1001 * k ∧ Hid (L = sumL (a.take k) b)) (fun _ s12 _ => Na - (intOf s12).toNat)
 case atStart => exact ⟨0, 0, ([]), rfl, World.ownsRow_nil _ _ _ _, Below.refl _ _, (by omega), (by omega), Lib.hid rfl⟩
 case round =>
  obtain ⟨k, n, L, rfl, o1, hB2, hk, hnk, HE⟩ := hrel
  obtain ⟨wr3, hwr3⟩ : ∃ W_, W_ = wr := ⟨_, rfl⟩
  subst hwr3
  have O4 := Lib.hid o1
  clear o1
  by_cases hltk : k < Na
  ·skip
   have i1k : (k : Int) < Na := by omega
   obtain ⟨x5, hx6⟩ : ∃ x, a[k]? = some x := ⟨_, List.getElem?_eq_getElem (by rw [HNA.out]; omega)⟩
   have Hhx6 := Lib.hid hx6
   have Zhx6 := Lib.hid (HSA.out _ (List.mem_of_getElem? hx6))
   clear hx6
   have HT3 : Hid (sumL (a.take (k + 1)) b = sumL (a.take k) b ++ b.map (Pl.addP x5)) := Lib.hid (by rw [take_snocA Hhx6.out, sumL_snoc])
   obtain ⟨g8, o9, ha10, -⟩ := (HXA.out).up kpP hB2 _ _ Hhx6.out
   subst ha10
   have ce7 := LX.at_ ((HXA.out).up kpP hB2) Hhx6.out
   have ce7_ : g8 < wr3.heap.size := World.block_lt_of_cell? _ _ ce7.1
   have uce7 := ce7
   simp only [CE, Nat.reduceMul] at uce7
   have f11 := owns_new0 O4.out
   have ne12_ : g8 < wr3.heap.size := by omega
   have ne12 := Nat.ne_of_lt ne12_
   have ne12' := ne12.symm
   go_wp2_with fail
   refine wp_named ?_
   intro W1 hW1
   have hL1 : Below wr3.heap.size wr3 W1 := by
    rw [hW1]
    exact bB
   have c13 : Own W1 (wr3.heap.size) 0 [.bool (ng x5.1.num), .string (mg x5.1.num.natAbs), .bool false, .string (mg (dn x5.1)), .bool (ng x5.2.num), .string (mg x5.2.num.natAbs), .bool false, .string (mg (dn x5.2))] := by
    rw [hW1]
    first
    | (repeat (first | (with_reducible refine own_new (l := [.bool (ng x5.1.num), .string (mg x5.1.num.natAbs), .bool false, .string (mg (dn x5.1)), .bool (ng x5.2.num), .string (mg x5.2.num.natAbs), .bool false, .string (mg (dn x5.2))]) ?_; (simp; done)) | with_reducible refine Own.alloc ?_ _ | refine Own.far _ _ (by first | (simp; done) | (simp [*]; done) | (simp; omega)) ?_)); done
    | simp [Own, go_sem, uce7, ne12, ne12', ne12_]
   have O14 := Lib.hid (owns_up O4.out hL1)
   have hB15 : Below w.heap.size w W1 := by
    rw [hW1]
    exact bB
   clear hW1 hL1 uce7
   go_loopw [5, 18] (fun s5 s18 wr => ∃ (i : Nat) (n2 : Nat) (M : List (Rat × Rat)), s18 = .int .i64 i ∧ Own wr (wr3.heap.size) 0 [.bool (ng x5.1.num), .string (mg x5.1.num.natAbs), .bool false, .string (mg (dn x5.1)), .bool (ng x5.2.num), .string (mg x5.2.num.natAbs), .bool false, .string (mg (dn x5.2))] ∧ wr.ownsRow w.heap.size 35 8 s5 n2 (pts M) ∧ Value.ownBlock s5 ≠ some (wr3.heap.size) ∧ Below w.heap.size w wr ∧ i ≤ Nb ∧ n2 ≤ n + i ∧ Hid (M = L ++ (b.take i).map (Pl.addP x5))) (fun _ s18 _ => Nb - (intOf s18).toNat)
   case atStart => exact ⟨0, n, L, rfl, c13, O14.out, f11, hB15, (by omega), (by omega), Lib.hid (by simp)⟩
   case round =>
    clear c13 hB15 O14
    obtain ⟨i, n2, M, rfl, b16, o17, f18, hB19, hi, hn2, HM⟩ := hrel
    obtain ⟨wr20, hwr20⟩ : ∃ W_, W_ = wr := ⟨_, rfl⟩
    subst hwr20
    have O21 := Lib.hid o17
    clear o17
    by_cases hlti : i < Nb
    ·skip
     have i1i : (i : Int) < Nb := by omega
     obtain ⟨x22, hx23⟩ : ∃ x, b[i]? = some x := ⟨_, List.getElem?_eq_getElem (by rw [HNB.out]; omega)⟩
     have Hhx23 := Lib.hid hx23
     have Zhx23 := Lib.hid (HSB.out _ (List.mem_of_getElem? hx23))
     clear hx23
     have HT6 : Hid ((b.take (i + 1)).map (Pl.addP x5) = (b.take i).map (Pl.addP x5) ++ [Pl.addP x5 x22]) := Lib.hid (by rw [take_snocA Hhx23.out, List.map_append]; rfl)
     obtain ⟨g25, o26, ha27, -⟩ := (HXB.out).up kpP hB19 _ _ Hhx23.out
     subst ha27
     have ce24 := LX.at_ ((HXB.out).up kpP hB19) Hhx23.out
     have ce24_ : g25 < wr20.heap.size := World.block_lt_of_cell? _ _ ce24.1
     have uce24 := ce24
     simp only [CE, Nat.reduceMul] at uce24
     have f28 := owns_new0 O21.out
     have ne29_ : wr3.heap.size < wr20.heap.size := by have := b16.lt; omega
     have ne29 := Nat.ne_of_lt ne29_
     have ne29' := ne29.symm
     have ne30_ : g8 < wr20.heap.size := by omega
     have ne30 := Nat.ne_of_lt ne30_
     have ne30' := ne30.symm
     have ne31_ : g25 < wr20.heap.size := by omega
     have ne31 := Nat.ne_of_lt ne31_
     have ne31' := ne31.symm
     have ub16 := b16
     simp only [At, Own, Nat.reduceAdd, and_true] at ub16
     have K32 := Lib.hid (fun W => padd_any x5 x22 W Zhx6.out Zhx23.out (by omega) (by omega))
     go_wp2_with (fail)
     refine calls_named ?_
     intro W2 hW2
     have hL2 : Below wr20.heap.size wr20 W2 := by
      rw [hW2]
      exact bB
     have c33 := b16.up hL2
     have c34 : Own W2 (wr20.heap.size) 0 [.bool (ng x22.1.num), .string (mg x22.1.num.natAbs), .bool false, .string (mg (dn x22.1)), .bool (ng x22.2.num), .string (mg x22.2.num.natAbs), .bool false, .string (mg (dn x22.2))] := by
      rw [hW2]
      first
      | (repeat (first | (with_reducible refine own_new (l := [.bool (ng x22.1.num), .string (mg x22.1.num.natAbs), .bool false, .string (mg (dn x22.1)), .bool (ng x22.2.num), .string (mg x22.2.num.natAbs), .bool false, .string (mg (dn x22.2))]) ?_; (simp; done)) | with_reducible refine Own.alloc ?_ _ | refine Own.far _ _ (by first | (simp; done) | (simp [*]; done) | (simp; omega)) ?_)); done
      | simp [Own, go_sem, uce24, ub16, ne29, ne29', ne29_, ne30, ne30', ne30_, ne31, ne31', ne31_]
     have O35 := Lib.hid (owns_up O21.out hL2)
     have hB36 : Below w.heap.size w W2 := by
      rw [hW2]
      exact bB
     clear hW2 hL2 uce24 ub16 b16
     with_reducible refine (K32.out _).mono ?_
     rintro e w2 ⟨rfl, hb2⟩
     have c37 := c33.up hb2
     have c38 := c34.up hb2
     have O39 := Lib.hid (owns_up O35.out hb2)
     have hB40 : Below w.heap.size w w2 := bel_up hB36 hb2
     clear c33 c34 O35
     have uc37 := c37; have uc38 := c38
     simp only [At, Own, Nat.reduceAdd, and_true] at uc37 uc38
     go_wp2_with (at_builtin; refine wpList_appF rfl _ _ _ rfl ti_pt O39.out (hB40).size rfl rfl rfl rfl (pcells_one (Pl.addP x5 x22)) (by omega) (by decide) ?_)
     intro v41 w_v41 hown_v41 hst_v41
     have O43 : Hid (w_v41.ownsRow w.heap.size 35 8 v41 ((n2 + 1)) (pts (M ++ [(Pl.addP x5 x22)]))) := Lib.hid (by rw [pts_snoc]; exact hown_v41)
     have c44 := Own.step hst_v41 f18 c37
     have f45 := hst_v41.far _ c37.lt f18
     have c46 := Own.step hst_v41 f28 c38
     have f47 := hst_v41.far _ c38.lt f28
     have hB48 : Below w.heap.size w w_v41 := hst_v41.below hB40 (hB40).size (fun r hr => (O39.out.lt r hr).1)
     clear uc37 uc38 hown_v41 c37 c38
     have uc44 := c44; have uc46 := c46
     simp only [At, Own, Nat.reduceAdd, and_true] at uc44 uc46
     go_wp2
     go_roundw
     case rel => exact ⟨(i + 1), (n2 + 1), (M ++ [Pl.addP x5 x22]), (by first | rfl | exact congrArg (Value.int .i64) (by omega) | simp [*]), (by repeat (first | with_reducible exact c44 | refine Own.far _ _ (by simp <;> omega) ?_ | with_reducible refine Own.alloc ?_ _)), (by repeat (first | with_reducible exact O43.out | refine owns_far ?_ _ (by first | exact f45 | exact f47) _ | with_reducible refine World.ownsRow.alloc ?_ _)), f45, (by exact bB), (by omega), (by omega), Lib.hid (by rw [HT6.out, HM.out, List.append_assoc])⟩
     case measure => simp [intOf] <;> omega
    ·skip
     have hkN : Nb = i := by omega
     subst hkN
     have ub16 := b16
     simp only [At, Own, Nat.reduceAdd, and_true] at ub16
     go_wp2
     go_roundw
     case rel => exact ⟨(k + 1), n2, M, (by first | rfl | exact congrArg (Value.int .i64) (by omega) | simp [*]), (by repeat (first | with_reducible exact O21.out | refine owns_far ?_ _ (by first | exact f18) _ | with_reducible refine World.ownsRow.alloc ?_ _)), (by exact bB), (by omega), (by omega), Lib.hid (by rw [HT3.out, ← HE.out, ← HFB.out, ← HM.out])⟩
     case measure => simp [intOf] <;> omega
  ·skip
   have hkN : Na = k := by omega
   subst hkN
   have K49 := Lib.hid (fun v W hW => hull_any v (sumL a b) W hW HZ.out HQ.out (by omega : S + S + 1 ≤ 100000))
   go_wp2_with (fail)
   refine calls_named ?_
   intro W3 hW3
   have hL3 : Below wr3.heap.size wr3 W3 := by
    rw [hW3]
    exact bB
   have O50 := Lib.hid (owns_up O4.out hL3)
   have hB51 : Below w.heap.size w W3 := by
    rw [hW3]
    exact bB
   clear hW3 hL3
   with_reducible refine (K49.out _ _ (by rw [← HFA.out, ← HE.out]; exact pv_own O50.out)).mono ?_
   rintro e w3 ⟨v3, rfl, hv3, hb3⟩
   have O52 := Lib.hid (owns_up O50.out hb3)
   have hB53 : Below w.heap.size w w3 := bel_up hB51 hb3
   clear O50
   have PW3 := Lib.hid hv3
   clear hv3
   go_wp2
   go_ret
   exact ⟨_, rfl, (by skip; exact PW3.out), (by exact bB)⟩
end Go.Proofs.YtdkkjfnpinckjaaGreatDoor
