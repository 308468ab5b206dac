/-
  The law NetworkPoints: the statement.
-/
import Derived.Test.YtldfencaoaikgaaGreatDoorUNcl
import Derived.Test.YtldfencaoaikgaaGreatDoorUNcp
import Derived.Test.YtldfencaoaikgaaGreatDoorULf9
import Derived.Test.YtldfencaoaikgaaGreatDoorCards
import Derived.Test.YtldfencaoaikgaaGreatDoorTie
import Derived.SevenTiedAt
import Derived.Lay
import Derived.Carry
import Derived.SizedLaws
set_option linter.unusedSimpArgs false
set_option linter.unusedVariables false
namespace Go.Proofs.YtldfencaoaikgaaGreatDoor
open Go Go.ChangeShapes Go.WideShapes Go.ChangeAt Go.WideMaps Go.WideElems Go.RowKit
set_option maxRecDepth 100000

theorem ownK : ownKnob Tryz.prog.godebug = none := by kernel_rfl
theorem laidOutK : laidOutB Tryz.prog = true := by kernel_rfl
set_option maxRecDepth 100000 in
theorem networkPoints_lifted (os : Os) (started : os.Started) (H : Type) (enc : TypeId × Value → H) :
    ReturnsInHanded {} Tryz.checked os 4 .any (fun w args => (Rows.networkPointsSpec.pre enc Tryz.prog Tryz.f4 [] false w args ∧ laidMetH Tryz.prog Rows.networkPointsRow.laid w) ∧ sizedMet enc Tryz.prog Tryz.f4 (OpenSpec.ofChange Rows.networkPointsSpec) false w args)
      (Rows.networkPointsSpec.post enc Tryz.prog Tryz.f4 false true false false) := by
  refine returnsInHanded_of_change_and (C := Tryz.checked) (X := fun w _ => laidMetH Tryz.prog Rows.networkPointsRow.laid w) (fun _ _ _ hh h => h.of_heap hh) ownK started (by kernel_rfl) Tryz.func4
    (ChangeSpec.witness_shaped (enc := enc) (C := Tryz.checked) (os := os) (X := fun w _ => laidMetH Tryz.prog Rows.networkPointsRow.laid w) false (World.laidAll Tryz.prog os Rows.networkPointsRow.laid) #[.agg #[.slice none 0 0, .slice none 0 0], .agg #[.int .u8 0, .int .u8 0], .agg #[.int .i64 0, .bool false, .string ⟨#[]⟩, .bool false, .string ⟨#[]⟩]] 8 (World.laidAll_os _ _ _) (World.shaped_of_ZipB (by kernel_rfl) (by kernel_rfl)) (by kernel_rfl) (by kernel_rfl) (by kernel_rfl)
      (by rw [MakeChecks.laidMetH_plain _ _ _ (by kernel_rfl)]; exact laidMet_laidAll _ (by kernel_rfl) (by kernel_rfl))) ?_
  intro W base args ds gs before hval0 hW _ hz0 _ _
  have hval : ∀ (j : Nat) t v, Tryz.f4.params[j]? = some t → args[j]? = some v → Value.okWide Tryz.prog W .any base t v := hval0
  have hW' := hW
  obtain ⟨p, q, hA0, hV, rfl, hfz, hnd⟩ := hW
  have hA : DataW.TrodAll enc Tryz.prog W 0 (fun _ => true) true Tryz.f4.params.toList args.toList ds p := hA0
  rw [Tryz.params4] at hA hval
  obtain ⟨v0, v1, v2, d0, d1, d2, p0, p1, p2, rfl, rfl, rfl, h0, h1, h2⟩ := trodAll_three hA
  obtain ⟨rfl, rfl⟩ := trodVars_none hV
  obtain ⟨sp0, la0, hG0, hU0⟩ := open_grid (hval 0 _ v0 rfl rfl) h0
  obtain ⟨wr1, wp1, hwr1, hwp1, hv1⟩ := open_where (hval 1 _ v1 rfl rfl) h1
  have hz2 : ∀ n ∈ DataW.weights Tryz.prog 42 d2, n ≤ reachBytes := fun n hn => by
    simpa using List.all_eq_true.1 hz0 n (DataW.weights_mem_each (j := 2) (t := 42) (d := d2) (by rw [Tryz.params4]; rfl) rfl n hn)
  obtain ⟨k2, a2, x2, b2, y2, hv2, hx2, hy2⟩ := open_place (hval 2 _ v2 rfl rfl) h2 hz2
  clear hA0 hval0
  simp only [List.append_nil, List.append_assoc] at hW'
  have hlt : ∀ x ∈ p0 ++ (p1 ++ p2), x.block < W.heap.size := fun x hx => by simpa using hW'.lt x hx
  have hargs : ∀ (W' : World), RowKit.Below W.heap.size W W' → DataW.TrodAll enc Tryz.prog W' 0 (fun b => decide (b < W.heap.size)) true [29, 36, 42] [v0, v1, v2] [d0, d1, d2] (p0 ++ (p1 ++ p2)) :=
    fun W' hn => trodAll_mk3 (RowKit.Below.trod laidOutK (by kernel_rfl) (of_decide_eq_true (by kernel_rfl)) h0 hn fun x hx => hlt x (List.mem_append_left _ hx)) (RowKit.Below.trod laidOutK (by kernel_rfl) (of_decide_eq_true (by kernel_rfl)) h1 hn fun x hx => hlt x (List.mem_append_right _ (List.mem_append_left _ hx))) (RowKit.Below.trod laidOutK (by kernel_rfl) (of_decide_eq_true (by kernel_rfl)) h2 hn fun x hx => hlt x (List.mem_append_right _ (List.mem_append_right _ hx)))
  subst hv1
  subst hv2
  refine (points_any sp0 la0 wr1 wp1 k2 a2 x2 b2 y2 v0 W hG0 hU0 hwr1 hwp1 hx2 hy2).mono fun e W' ⟨he, hB⟩ => ?_
  subst he
  exact ⟨_, rfl, _, _, _, [], p0 ++ (p1 ++ p2), [], hW', trodAll_mk1 (shut_bool Tryz.underlying4 _), hargs W' hB.kit, rfl, hB.kit.frame _, fun h => by cases h⟩
theorem networkPoints_holds : Rows.NetworkPointsSaid :=
  OpenClaim.holds_of_wide 4 Tryz.f4 rfl rfl rfl rfl rfl rfl rfl ⟨rfl, rfl, rfl, rfl, rfl⟩ rfl rfl rfl rfl rfl (by kernel_rfl) Tryz.func4 (by kernel_rfl)
    (of_decide_eq_true (by kernel_rfl)) (by unfold Func.isWrapper; first | (rw [if_pos (by decide +kernel)]; kernel_rfl) | (rw [if_neg (by decide +kernel)]; exact ⟨rfl, rfl⟩))
    (fun os started H enc _ => networkPoints_lifted os started H enc)
/-- The statement. -/
theorem networkPoints_card_holds : Rows.NetworkPointsCardSaid :=
  Claim7.holds_tied_plain_at .later [] [.data, .pinned] true (true, "ec80002bd1fa915b43357eb9ea7a3c3d28dbe711a23bde2ce8a261a10fdecd8e") false
    networkPoints_holds (fun _ h => by cases h) (by kernel_rfl) (fun _ h => by cases h) networkPoints_row_tie rfl ⟨rfl, rfl⟩ (by kernel_rfl) rfl
    (fun f fn hf hfn => by
      obtain rfl : f = 4 := Option.some.inj ((show Tryz.prog.funcNamed Rows.networkPointsRow.func = some 4 by kernel_rfl).symm.trans hf) |>.symm
      obtain rfl : fn = Tryz.f4 := (Option.some.inj (Tryz.func4.symm.trans hfn)).symm
      exact ⟨by kernel_rfl, fun j t ht => by
        rw [Tryz.params4] at ht
        have hm : t ∈ [29, 36, 42] := by simpa using Array.mem_of_getElem? ht
        have hall : ([29, 36, 42].all fun u => !Tryz.prog.wantsStandIn u) = true := by kernel_rfl
        exact (show Tryz.prog.wantsStandIn t = false by simpa using List.all_eq_true.1 hall t hm)⟩)
    (by kernel_rfl)
end Go.Proofs.YtldfencaoaikgaaGreatDoor
