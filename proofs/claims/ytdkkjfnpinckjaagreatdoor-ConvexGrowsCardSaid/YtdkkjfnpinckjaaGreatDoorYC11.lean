/-
 The law ConvexGrows: the statement.
-/
import Derived.Test.YtdkkjfnpinckjaaGreatDoorYMr
import Derived.Test.YtdkkjfnpinckjaaGreatDoorYLgr
import Derived.Test.YtdkkjfnpinckjaaGreatDoorCards
import Derived.Test.YtdkkjfnpinckjaaGreatDoorTie
import Derived.SevenTiedAt
import Derived.Lay
import Derived.Carry
set_option maxRecDepth 100000
set_option linter.unusedSimpArgs false
set_option linter.unusedVariables false
namespace Go.Proofs.YtdkkjfnpinckjaaGreatDoor
open Go Go.ChangeShapes Go.WideShapes Go.ChangeAt Go.WideMaps Go.WideElems Go.RowKit
set_option maxRecDepth 100000

theorem trod_size {H : Type} {enc : TypeId × Value → H} {W : World} {base n : Nat} {sp : Nat → Bool} {hd : Bool} {cs : List Value} {x : DataW H × List MemPlace}
 (h : DataW.trod enc Tryz.prog W base sp hd n 66 cs = some x) : ∃ a b l : Int, -32768 ≤ a ∧ a ≤ 32767 ∧ 0 ≤ b ∧ b ≤ 255 ∧ cs = [.int .i16 a, .int .u8 b, .int .i64 l] := by
 obtain ⟨y0, y1, y2, n', _, hl, h0, h1, h2⟩ := Deep.trod_struct3 Tryz.underlying66 h
 have c25 : Tryz.prog.cellsOf 66 = 3 := by kernel_rfl
 have c23 : Tryz.prog.cellsOf 64 = 1 := by kernel_rfl
 have c4 : Tryz.prog.cellsOf 5 = 1 := by kernel_rfl
 have c5 : Tryz.prog.cellsOf 3 = 1 := by kernel_rfl
 rw [c25] at hl
 match cs, hl with
 | [a, b, c], _ =>
  simp only [c23, c4, c5, List.drop_zero, List.drop_succ_cons, List.take_succ_cons, List.take_zero] at h0 h1 h2
  obtain ⟨k, e1, _, w1⟩ := DataW.trod_int Tryz.underlying64 h0
  obtain ⟨j, e2, _, w2⟩ := DataW.trod_int Tryz.underlying5 h1
  obtain ⟨t, e3, _⟩ := DataW.trod_int Tryz.underlying3 h2
  cases e1; cases e2; cases e3
  simp [Lit.wf] at w1 w2
  exact ⟨k, j, t, w1.1, w1.2, w2.1, w2.2, rfl⟩
theorem open_size {H : Type} {enc : TypeId × Value → H} {W : World} {base : Nat} {sp : Nat → Bool} {hd : Bool} {v : Value} {d : DataW H} {ps : List MemPlace} {b0 : Nat}
 (hv : Value.okWide Tryz.prog W .any b0 66 v) (h : DataW.Trod enc Tryz.prog W base sp hd 66 v d ps) : ∃ a b l : Int, -32768 ≤ a ∧ a ≤ 32767 ∧ 0 ≤ b ∧ b ≤ 255 ∧ v = .agg #[.int .i16 a, .int .u8 b, .int .i64 l] := by
 obtain ⟨cs, rfl, _⟩ := okWide_struct Tryz.underlying66 hv
 obtain ⟨fuel, hf⟩ := h
 obtain ⟨a, b, l, h1, h2, h3, h4, hc⟩ := trod_size hf
 refine ⟨a, b, l, h1, h2, h3, h4, ?_⟩
 have : cs = ([.int .i16 a, .int .u8 b, .int .i64 l] : List Value).toArray := by
  have h2 : cs.toList = ([.int .i16 a, .int .u8 b, .int .i64 l] : List Value) := by simpa [Value.cells] using hc
  rw [← h2]
 rw [this]

theorem ownK : ownKnob Tryz.prog.godebug = none := by kernel_rfl
theorem laidOutK : laidOutB Tryz.prog = true := by kernel_rfl
theorem convexGrows_lifted (os : Os) (started : os.Started) (H : Type) (enc : TypeId × Value → H) :
 ReturnsInHanded {} Tryz.checked os 10 .any (fun w args => (Rows.convexGrowsSpec.pre enc Tryz.prog Tryz.f10 [] false w args ∧ laidMetH Tryz.prog Rows.convexGrowsRow.laid w) ∧ sizedMet enc Tryz.prog Tryz.f10 (OpenSpec.ofChange Rows.convexGrowsSpec) false w args)
  (Rows.convexGrowsSpec.post enc Tryz.prog Tryz.f10 false true false false) := by
 refine returnsInHanded_of_change_and (C := Tryz.checked) (X := fun w _ => laidMetH Tryz.prog Rows.convexGrowsRow.laid w) (fun _ _ _ hh h => h.of_heap hh) ownK started (by kernel_rfl) Tryz.func10
  (ChangeSpec.witness_shaped (enc := enc) (C := Tryz.checked) (os := os) (X := fun w _ => laidMetH Tryz.prog Rows.convexGrowsRow.laid w) false (World.laidAll Tryz.prog os Rows.convexGrowsRow.laid) #[.slice none 0 0, .agg #[.int .i16 0, .int .u8 0, .int .i64 0], .agg #[.int .i8 0, .int .i8 0, .bool false]] 8 (World.laidAll_os _ _ _) (World.shaped_of_ZipB (by kernel_rfl) (by kernel_rfl)) (by kernel_rfl) (by kernel_rfl) (by kernel_rfl)
   (by rw [MakeChecks.laidMetH_plain _ _ _ (by kernel_rfl)]; exact laidMet_laidAll _ (by kernel_rfl) (by kernel_rfl))) ?_
 intro W base args ds gs before hval0 hW _ _ _ _
 have hval : ∀ (j : Nat) t v, Tryz.f10.params[j]? = some t → args[j]? = some v → Value.okWide Tryz.prog W .any base t v := hval0
 have hW' := hW
 obtain ⟨p, q, hA0, hV, rfl, hfz, hnd⟩ := hW
 have hA : DataW.TrodAll enc Tryz.prog W 0 (fun _ => true) true Tryz.f10.params.toList args.toList ds p := hA0
 rw [Tryz.params10] at hA hval
 obtain ⟨v0, v1, v2, d0, d1, d2, p0, p1, p2, rfl, rfl, rfl, h0, h1, h2⟩ := trodAll_three hA
 obtain ⟨rfl, rfl⟩ := trodVars_none hV
 obtain ⟨l0, hT0, hI0, hn0⟩ := open_spots (hval 0 _ v0 rfl rfl) h0
 obtain ⟨za1, zb1, zl1, hz11, hz21, hz31, hz41, hv1⟩ := open_size (hval 1 _ v1 rfl rfl) h1
 obtain ⟨s2, hs2, hv2⟩ := open_spot (hval 2 _ v2 rfl rfl) h2
 clear hA0 hval0
 simp only [List.append_nil, List.append_assoc] at hW'
 have hlt : ∀ x ∈ p0 ++ (p1 ++ p2), x.block < W.heap.size := fun x hx => by simpa using hW'.lt x hx
 have hargs : ∀ (W' : World), RowKit.Below W.heap.size W W' → DataW.TrodAll enc Tryz.prog W' 0 (fun b => decide (b < W.heap.size)) true [22, 66, 25] [v0, v1, v2] [d0, d1, d2] (p0 ++ (p1 ++ p2)) :=
  fun W' hn => trodAll_mk3 (RowKit.Below.trod laidOutK (by kernel_rfl) (of_decide_eq_true (by kernel_rfl)) h0 hn fun x hx => hlt x (List.mem_append_left _ hx)) (RowKit.Below.trod laidOutK (by kernel_rfl) (of_decide_eq_true (by kernel_rfl)) h1 hn fun x hx => hlt x (List.mem_append_right _ (List.mem_append_left _ hx))) (RowKit.Below.trod laidOutK (by kernel_rfl) (of_decide_eq_true (by kernel_rfl)) h2 hn fun x hx => hlt x (List.mem_append_right _ (List.mem_append_right _ hx)))
 subst hv1
 subst hv2
 refine (grows_any v0 l0 za1 zb1 zl1 s2 W hT0 hI0 (by simpa [maxLen] using hn0) hz11 hz21 hz31 hz41 hs2).mono fun e W' ⟨he, hB⟩ => ?_
 subst he
 exact ⟨_, rfl, _, _, _, [], p0 ++ (p1 ++ p2), [], hW', trodAll_mk1 (shut_bool Tryz.underlying4 _), hargs W' hB.kit, rfl, hB.kit.frame _, fun h => by cases h⟩
theorem convexGrows_holds : Rows.ConvexGrowsSaid :=
 OpenClaim.holds_of_wide 10 Tryz.f10 rfl rfl rfl rfl rfl rfl rfl ⟨rfl, rfl, rfl, rfl, rfl⟩ rfl rfl rfl rfl rfl (by kernel_rfl) Tryz.func10 (by kernel_rfl)
  (of_decide_eq_true (by kernel_rfl)) (by unfold Func.isWrapper; first | (rw [if_pos (by decide +kernel)]; kernel_rfl) | (rw [if_neg (by decide +kernel)]; exact ⟨rfl, rfl⟩))
  (fun os started H enc _ => convexGrows_lifted os started H enc)
/-- The statement. -/
theorem convexGrows_card_holds : Rows.ConvexGrowsCardSaid :=
 Claim7.holds_tied_plain_at .later [] [.data, .pinned] true (true, "58f1938c111bd1910912a1ccb0108aa688cdcb44b984c39e7af97087fdbd55b0") false
  convexGrows_holds (fun _ h => by cases h) (by kernel_rfl) (fun _ h => by cases h) convexGrows_row_tie rfl ⟨rfl, rfl⟩ (by kernel_rfl) rfl
  (fun f fn hf hfn => by
   obtain rfl : f = 10 := Option.some.inj ((show Tryz.prog.funcNamed Rows.convexGrowsRow.func = some 10 by kernel_rfl).symm.trans hf) |>.symm
   obtain rfl : fn = Tryz.f10 := (Option.some.inj (Tryz.func10.symm.trans hfn)).symm
   exact ⟨by kernel_rfl, fun j t ht => by
    rw [Tryz.params10] at ht
    have hm : t ∈ [22, 66, 25] := by simpa using Array.mem_of_getElem? ht
    have hall : ([22, 66, 25].all fun u => !Tryz.prog.wantsStandIn u) = true := by kernel_rfl
    exact (show Tryz.prog.wantsStandIn t = false by simpa using List.all_eq_true.1 hall t hm)⟩)
  (by kernel_rfl)
end Go.Proofs.YtdkkjfnpinckjaaGreatDoor
