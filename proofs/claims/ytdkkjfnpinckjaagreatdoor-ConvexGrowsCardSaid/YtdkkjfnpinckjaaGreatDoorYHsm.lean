/-
 Contracts of the reference for convex sets: sums.
-/
import Derived.Test.YtdkkjfnpinckjaaGreatDoorYMp
import Derived.Test.YtdkkjfnpinckjaaGreatDoorYMl
set_option maxRecDepth 100000
set_option linter.unusedSimpArgs false
set_option linter.unusedVariables false
namespace Go.Proofs.YtdkkjfnpinckjaaGreatDoor
open Go Go.RowKit

theorem hsum_any {S : Nat} (va vb : Value) (a b : List (Rat × Rat)) (w : World) (ha : PV w va a) (hb : PV w vb b) (hsa : ∀ q ∈ a, Pl.SzP S q) (hsb : ∀ q ∈ b, Pl.SzP S q) (hna : a.length ≤ 1000) (hnb : b.length ≤ 1000) (hS : S ≤ 40000) :
 Calls Tryz.prog 26 #[va, vb] w fun e w' => ∃ v', e = .returned v' ∧ PV w' v' (Pl.wrap (sumL a b)) ∧ Below w.heap.size w w' := by
 have HZ := Lib.hid (sumL_sz hsa hsb)
 have HQ : Hid ((sumL a b).length ≤ 1000000) := Lib.hid (by rw [sumL_length]; exact Nat.le_trans (Nat.mul_le_mul hna hnb) (by decide))
 obtain ⟨Aa, ca, rfl, hca, hma, hxa⟩ := ha.open_
 have HVA := Lib.hid ha
 have HXA := Lib.hid hxa
 have HSA := Lib.hid hsa
 obtain ⟨Ab, cb, rfl, hcb, hmb, hxb⟩ := hb.open_
 have HVB := Lib.hid hb
 have HXB := Lib.hid hxb
 have HSB := Lib.hid hsb
 have HFA : Hid (a.take a.length = a) := Lib.hid List.take_length
 generalize hNa : a.length = Na at *
 have HNA := Lib.hid hNa
 clear ha hxa hsa hNa
 have HFB : Hid (b.take b.length = b) := Lib.hid List.take_length
 generalize hNb : b.length = Nb at *
 have HNB := Lib.hid hNb
 clear hb hxb hsb hNb
 go_enter Tryz.func26, Tryz.ntmps26
 go_wp2_with fail
 go_loopw [5, 6] (fun s5 s6 wr => ∃ (k : Nat) (n : Nat) (L : List (Rat × Rat)), s6 = .int .i64 k ∧ wr.ownsRow w.heap.size 35 8 s5 n (pts L) ∧ Below w.heap.size w wr ∧ k ≤ Na ∧ n ≤ 1001 * k ∧ Hid (L = sumL (a.take k) b)) (fun _ s6 _ => Na - (intOf s6).toNat)
 case atStart => exact ⟨0, 0, ([]), rfl, World.ownsRow_nil _ _ _ _, Below.refl _ _, (by omega), (by omega), Lib.hid rfl⟩
 case round =>
  obtain ⟨k, n, L, rfl, o1, hB2, hk, hnk, HE⟩ := hrel
  obtain ⟨wr3, hwr3⟩ : ∃ W_, W_ = wr := ⟨_, rfl⟩
  subst hwr3
  have O4 := Lib.hid o1
  clear o1
  by_cases hltk : k < Na
  ·skip
   have i1k : (k : Int) < Na := by omega
   obtain ⟨x5, hx6⟩ : ∃ x, a[k]? = some x := ⟨_, List.getElem?_eq_getElem (by rw [HNA.out]; omega)⟩
   have Hhx6 := Lib.hid hx6
   have Zhx6 := Lib.hid (HSA.out _ (List.mem_of_getElem? hx6))
   clear hx6
   have HT3 : Hid (sumL (a.take (k + 1)) b = sumL (a.take k) b ++ b.map (Pl.addP x5)) := Lib.hid (by rw [take_snocA Hhx6.out, sumL_snoc])
   go_wp2_with fail
   go_loopw [5, 7] (fun s5 s7 wr => ∃ (i : Nat) (n2 : Nat) (M : List (Rat × Rat)), s7 = .int .i64 i ∧ wr.ownsRow w.heap.size 35 8 s5 n2 (pts M) ∧ Below w.heap.size w wr ∧ i ≤ Nb ∧ n2 ≤ n + i ∧ Hid (M = L ++ (b.take i).map (Pl.addP x5))) (fun _ s7 _ => Nb - (intOf s7).toNat)
   case atStart => exact ⟨0, n, L, rfl, O4.out, hB2, (by omega), (by omega), Lib.hid (by simp)⟩
   case round =>
    clear hB2 O4
    obtain ⟨i, n2, M, rfl, o7, hB8, hi, hn2, HM⟩ := hrel
    obtain ⟨wr9, hwr9⟩ : ∃ W_, W_ = wr := ⟨_, rfl⟩
    subst hwr9
    have O10 := Lib.hid o7
    clear o7
    by_cases hlti : i < Nb
    ·skip
     have i1i : (i : Int) < Nb := by omega
     obtain ⟨x11, hx12⟩ : ∃ x, b[i]? = some x := ⟨_, List.getElem?_eq_getElem (by rw [HNB.out]; omega)⟩
     have Hhx12 := Lib.hid hx12
     have Zhx12 := Lib.hid (HSB.out _ (List.mem_of_getElem? hx12))
     clear hx12
     have HT6 : Hid ((b.take (i + 1)).map (Pl.addP x5) = (b.take i).map (Pl.addP x5) ++ [Pl.addP x5 x11]) := Lib.hid (by rw [take_snocA Hhx12.out, List.map_append]; rfl)
     have K13 := Lib.hid (fun W => hadd_any x5 x11 W Zhx6.out Zhx12.out (by omega) (by omega))
     go_wp2_with fail
     refine wp_named ?_
     intro W1 hW1
     have hL1 : Below wr9.heap.size wr9 W1 := by
      rw [hW1]
      exact bB
     have O14 := Lib.hid (owns_up O10.out hL1)
     have hB15 : Below w.heap.size w W1 := by
      rw [hW1]
      exact bB
     clear hW1 hL1
     obtain ⟨g17, o18, ha19, -⟩ := (HXA.out).up kpP hB15 _ _ Hhx6.out
     subst ha19
     have ce16 := LX.at_ ((HXA.out).up kpP hB15) Hhx6.out
     have ce16_ : g17 < W1.heap.size := World.block_lt_of_cell? _ _ ce16.1
     have dce16 := fun b : Bel W1 => ce16.bel b
     simp only [CE, Nat.reduceMul] at dce16
     obtain ⟨g21, o22, ha23, -⟩ := (HXB.out).up kpP hB15 _ _ Hhx12.out
     subst ha23
     have ce20 := LX.at_ ((HXB.out).up kpP hB15) Hhx12.out
     have ce20_ : g21 < W1.heap.size := World.block_lt_of_cell? _ _ ce20.1
     have dce20 := fun b : Bel W1 => ce20.bel b
     simp only [CE, Nat.reduceMul] at dce20
     refine wp_region_tail1 10 (.tmp 5) (by kernel_rfl) (by kernel_rfl) rfl rfl (fun _ _ _ h => h) ?_
     simp only [List.take_succ_cons, List.take_zero, List.drop_succ_cons, List.drop_zero]
     go_simp
     repeat (go_big_quiet_step (first | (go_at_call 67; with_reducible exact Calls.bel (K13.out _))))
     refine wpQuiet_nil ?_
     intro w1 hb1
     have O24 := Lib.hid (owns_up O14.out hb1)
     have hB25 : Below w.heap.size w w1 := bel_up hB15 hb1
     clear dce16 dce20 O14
     go_wp2_with (at_builtin; refine wpList_appF rfl _ _ _ rfl ti_pt O24.out (hB25).size rfl rfl rfl rfl (pcells_one (Pl.addP x5 x11)) (by omega) (by decide) ?_)
     intro v26 w_v26 hown_v26 hst_v26
     have O28 : Hid (w_v26.ownsRow w.heap.size 35 8 v26 ((n2 + 1)) (pts (M ++ [(Pl.addP x5 x11)]))) := Lib.hid (by rw [pts_snoc]; exact hown_v26)
     have hB29 : Below w.heap.size w w_v26 := hst_v26.below hB25 (hB25).size (fun r hr => (O24.out.lt r hr).1)
     clear hown_v26
     go_wp2
     go_roundw
     case rel => exact ⟨(i + 1), (n2 + 1), (M ++ [Pl.addP x5 x11]), (by first | rfl | exact congrArg (Value.int .i64) (by omega) | simp [*]), (by repeat (first | with_reducible exact O28.out | refine owns_far ?_ _ (by omega) _ | with_reducible refine World.ownsRow.alloc ?_ _)), (by exact bB), (by omega), (by omega), Lib.hid (by rw [HT6.out, HM.out, List.append_assoc])⟩
     case measure => simp [intOf] <;> omega
    ·skip
     have hkN : Nb = i := by omega
     subst hkN
     go_wp2
     go_roundw
     case rel => exact ⟨(k + 1), n2, M, (by first | rfl | exact congrArg (Value.int .i64) (by omega) | simp [*]), (by repeat (first | with_reducible exact O10.out | refine owns_far ?_ _ (by omega) _ | with_reducible refine World.ownsRow.alloc ?_ _)), (by exact bB), (by omega), (by omega), Lib.hid (by rw [HT3.out, ← HE.out, ← HFB.out, ← HM.out])⟩
     case measure => simp [intOf] <;> omega
  ·skip
   have hkN : Na = k := by omega
   subst hkN
   have K30 := Lib.hid (fun v W hW => hHull_any v (sumL a b) W hW HZ.out HQ.out (by omega : S + S + 1 ≤ 100000))
   go_wp2_with (fail)
   refine calls_named ?_
   intro W2 hW2
   have hL2 : Below wr3.heap.size wr3 W2 := by
    rw [hW2]
    exact bB
   have O31 := Lib.hid (owns_up O4.out hL2)
   have hB32 : Below w.heap.size w W2 := by
    rw [hW2]
    exact bB
   clear hW2 hL2
   with_reducible refine (K30.out _ _ (by rw [← HFA.out, ← HE.out]; exact pv_own O31.out)).mono ?_
   rintro e w2 ⟨v2, rfl, hv2, hb2⟩
   have O33 := Lib.hid (owns_up O31.out hb2)
   have hB34 : Below w.heap.size w w2 := bel_up hB32 hb2
   clear O31
   have PW2 := Lib.hid hv2
   clear hv2
   go_wp2
   go_ret
   exact ⟨_, rfl, (by skip; exact PW2.out), (by exact bB)⟩
end Go.Proofs.YtdkkjfnpinckjaaGreatDoor
