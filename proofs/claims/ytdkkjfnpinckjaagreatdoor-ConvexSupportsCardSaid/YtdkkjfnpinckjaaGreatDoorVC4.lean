/-
  The law ConvexSupports: the statement.
-/
import Derived.Test.YtdkkjfnpinckjaaGreatDoorVMr
import Derived.Test.YtdkkjfnpinckjaaGreatDoorVLsu
import Derived.Test.YtdkkjfnpinckjaaGreatDoorCards
import Derived.Test.YtdkkjfnpinckjaaGreatDoorTie
import Derived.SevenTiedAt
import Derived.Lay
import Derived.Carry
set_option linter.unusedSimpArgs false
set_option linter.unusedVariables false
namespace Go.Proofs.YtdkkjfnpinckjaaGreatDoor
open Go Go.ChangeShapes Go.WideShapes Go.ChangeAt Go.WideMaps Go.WideElems Go.RowKit
set_option maxRecDepth 100000

set_option maxRecDepth 100000 in
theorem supports_any (v : Value) (l : List (Int × Int × Bool)) (s : Int × Int × Bool) (w : World) (h : TV w v l) (hs : ∀ s ∈ l, In8 s) (hn : l.length ≤ 9223372036854775807) (hsp : In8 s) :
    Calls Tryz.prog 6 #[v, .agg #[.int .i8 s.1, .int .i8 s.2.1, .bool s.2.2]] w fun e w' => e = .returned (.bool true) ∧ Below w.heap.size w w' := by
  cases hH : Pl.wrap (ptsOf l) with
  | nil => exact supports_none v l s w h hs hn hsp hH
  | cons a m => exact supports_some v l s a w h hs hn hsp (by rw [hH]; rfl)

theorem ownK : ownKnob Tryz.prog.godebug = none := by kernel_rfl
theorem laidOutK : laidOutB Tryz.prog = true := by kernel_rfl
set_option maxRecDepth 100000 in
theorem convexSupports_lifted (os : Os) (started : os.Started) (H : Type) (enc : TypeId × Value → H) :
    ReturnsInHanded {} Tryz.checked os 6 .any (fun w args => (Rows.convexSupportsSpec.pre enc Tryz.prog Tryz.f6 [] false w args ∧ laidMetH Tryz.prog Rows.convexSupportsRow.laid w) ∧ sizedMet enc Tryz.prog Tryz.f6 (OpenSpec.ofChange Rows.convexSupportsSpec) false w args)
      (Rows.convexSupportsSpec.post enc Tryz.prog Tryz.f6 false true false false) := by
  refine returnsInHanded_of_change_and (C := Tryz.checked) (X := fun w _ => laidMetH Tryz.prog Rows.convexSupportsRow.laid w) (fun _ _ _ hh h => h.of_heap hh) ownK started (by kernel_rfl) Tryz.func6
    (ChangeSpec.witness_shaped (enc := enc) (C := Tryz.checked) (os := os) (X := fun w _ => laidMetH Tryz.prog Rows.convexSupportsRow.laid w) false (World.laidAll Tryz.prog os Rows.convexSupportsRow.laid) #[.slice none 0 0, .agg #[.int .i8 0, .int .i8 0, .bool false]] 8 (World.laidAll_os _ _ _) (World.shaped_of_ZipB (by kernel_rfl) (by kernel_rfl)) (by kernel_rfl) (by kernel_rfl) (by kernel_rfl)
      (by rw [MakeChecks.laidMetH_plain _ _ _ (by kernel_rfl)]; exact laidMet_laidAll _ (by kernel_rfl) (by kernel_rfl))) ?_
  intro W base args ds gs before hval0 hW _ _ _ _
  have hval : ∀ (j : Nat) t v, Tryz.f6.params[j]? = some t → args[j]? = some v → Value.okWide Tryz.prog W .any base t v := hval0
  have hW' := hW
  obtain ⟨p, q, hA0, hV, rfl, hfz, hnd⟩ := hW
  have hA : DataW.TrodAll enc Tryz.prog W 0 (fun _ => true) true Tryz.f6.params.toList args.toList ds p := hA0
  rw [Tryz.params6] at hA hval
  obtain ⟨v0, v1, d0, d1, p0, p1, rfl, rfl, rfl, h0, h1⟩ := trodAll_two hA
  obtain ⟨rfl, rfl⟩ := trodVars_none hV
  obtain ⟨l0, hT0, hI0, hn0⟩ := open_spots (hval 0 _ v0 rfl rfl) h0
  obtain ⟨s1, hs1, hv1⟩ := open_spot (hval 1 _ v1 rfl rfl) h1
  clear hA0 hval0
  simp only [List.append_nil, List.append_assoc] at hW'
  have hlt : ∀ x ∈ p0 ++ p1, x.block < W.heap.size := fun x hx => by simpa using hW'.lt x hx
  have hargs : ∀ (W' : World), RowKit.Below W.heap.size W W' → DataW.TrodAll enc Tryz.prog W' 0 (fun b => decide (b < W.heap.size)) true [22, 25] [v0, v1] [d0, d1] (p0 ++ p1) :=
    fun W' hn => trodAll_mk2 (RowKit.Below.trod laidOutK (by kernel_rfl) (of_decide_eq_true (by kernel_rfl)) h0 hn fun x hx => hlt x (List.mem_append_left _ hx)) (RowKit.Below.trod laidOutK (by kernel_rfl) (of_decide_eq_true (by kernel_rfl)) h1 hn fun x hx => hlt x (List.mem_append_right _ hx))
  subst hv1
  refine (supports_any v0 l0 s1 W hT0 hI0 (by simpa [maxLen] using hn0) hs1).mono fun e W' ⟨he, hB⟩ => ?_
  subst he
  exact ⟨_, rfl, _, _, _, [], p0 ++ p1, [], hW', trodAll_mk1 (shut_bool Tryz.underlying4 _), hargs W' hB.kit, rfl, hB.kit.frame _, fun h => by cases h⟩
theorem convexSupports_holds : Rows.ConvexSupportsSaid :=
  OpenClaim.holds_of_wide 6 Tryz.f6 rfl rfl rfl rfl rfl rfl rfl ⟨rfl, rfl, rfl, rfl, rfl⟩ rfl rfl rfl rfl rfl (by kernel_rfl) Tryz.func6 (by kernel_rfl)
    (of_decide_eq_true (by kernel_rfl)) (by unfold Func.isWrapper; first | (rw [if_pos (by decide +kernel)]; kernel_rfl) | (rw [if_neg (by decide +kernel)]; exact ⟨rfl, rfl⟩))
    (fun os started H enc _ => convexSupports_lifted os started H enc)
/-- The statement. -/
theorem convexSupports_card_holds : Rows.ConvexSupportsCardSaid :=
  Claim7.holds_tied_plain_at .later [] [.data, .pinned] true (true, "58f1938c111bd1910912a1ccb0108aa688cdcb44b984c39e7af97087fdbd55b0") false
    convexSupports_holds (fun _ h => by cases h) (by kernel_rfl) (fun _ h => by cases h) convexSupports_row_tie rfl ⟨rfl, rfl⟩ (by kernel_rfl) rfl
    (fun f fn hf hfn => by
      obtain rfl : f = 6 := Option.some.inj ((show Tryz.prog.funcNamed Rows.convexSupportsRow.func = some 6 by kernel_rfl).symm.trans hf) |>.symm
      obtain rfl : fn = Tryz.f6 := (Option.some.inj (Tryz.func6.symm.trans hfn)).symm
      exact ⟨by kernel_rfl, fun j t ht => by
        rw [Tryz.params6] at ht
        have hm : t ∈ [22, 25] := by simpa using Array.mem_of_getElem? ht
        have hall : ([22, 25].all fun u => !Tryz.prog.wantsStandIn u) = true := by kernel_rfl
        exact (show Tryz.prog.wantsStandIn t = false by simpa using List.all_eq_true.1 hall t hm)⟩)
    (by kernel_rfl)
end Go.Proofs.YtdkkjfnpinckjaaGreatDoor
