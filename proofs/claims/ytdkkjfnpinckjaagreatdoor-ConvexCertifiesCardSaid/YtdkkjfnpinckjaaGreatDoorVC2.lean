/-
  The law ConvexCertifies: the statement.
-/
import Derived.Test.YtdkkjfnpinckjaaGreatDoorVMr
import Derived.Test.YtdkkjfnpinckjaaGreatDoorVCer
import Derived.Test.YtdkkjfnpinckjaaGreatDoorCards
import Derived.Test.YtdkkjfnpinckjaaGreatDoorTie
import Derived.SevenTiedAt
import Derived.Lay
import Derived.Carry
set_option linter.unusedSimpArgs false
set_option linter.unusedVariables false
namespace Go.Proofs.YtdkkjfnpinckjaaGreatDoor
open Go Go.ChangeShapes Go.WideShapes Go.ChangeAt Go.WideMaps Go.WideElems Go.RowKit
set_option maxRecDepth 100000

theorem trod_claim {H : Type} {enc : TypeId × Value → H} {W : World} {base n : Nat} {sp : Nat → Bool} {hd : Bool} {cs : List Value} {x : DataW H × List MemPlace}
    (h : DataW.trod enc Tryz.prog W base sp hd n 39 cs = some x) : ∃ ap s d lv br, In8 s ∧ In8 d ∧ -128 ≤ lv ∧ lv ≤ 127 ∧ cs = ([.bool ap] ++ tcells s ++ tcells d ++ [.int .i8 lv, .bool br] : List Value) := by
  obtain ⟨xs, m, _, _, hl, hlen, hf⟩ := DataW.trod_struct Tryz.underlying39 h
  have c39 : Tryz.prog.cellsOf 39 = 9 := by kernel_rfl
  have c25 : Tryz.prog.cellsOf 25 = 3 := by kernel_rfl
  have c23 : Tryz.prog.cellsOf 23 = 1 := by kernel_rfl
  have c4 : Tryz.prog.cellsOf 4 = 1 := by kernel_rfl
  rw [c39] at hl
  match xs, hlen with
  | [y0, y1, y2, y3, y4], _ =>
    have h0 := hf 0 _ rfl
    have h1 := hf 1 _ rfl
    have h2 := hf 2 _ rfl
    have h3 := hf 3 _ rfl
    have h4 := hf 4 _ rfl
    match cs, hl with
    | [a0, a1, a2, a3, a4, a5, a6, a7, a8], _ =>
      simp only [c25, c23, c4, List.drop_zero, List.drop_succ_cons, List.take_succ_cons, List.take_zero, List.getElem?_cons_zero, List.getElem?_cons_succ] at h0 h1 h2 h3 h4
      obtain ⟨t0, e0, _⟩ := DataW.trod_bool Tryz.underlying4 h0
      obtain ⟨s, hs, e1⟩ := trod_spot h1
      obtain ⟨d, hd, e2⟩ := trod_spot h2
      obtain ⟨k, e3, _, w3⟩ := DataW.trod_int Tryz.underlying23 h3
      obtain ⟨t4, e4, _⟩ := DataW.trod_bool Tryz.underlying4 h4
      simp [Lit.wf] at w3
      refine ⟨t0, s, d, k, t4, hs, hd, w3.1, w3.2, ?_⟩
      cases e0; cases e3; cases e4
      simp only [tcells] at e1 e2 ⊢
      cases e1; cases e2
      rfl
theorem open_claim {H : Type} {enc : TypeId × Value → H} {W : World} {base : Nat} {sp : Nat → Bool} {hd : Bool} {v : Value} {d : DataW H} {ps : List MemPlace} {b0 : Nat}
    (hv : Value.okWide Tryz.prog W .any b0 39 v) (h : DataW.Trod enc Tryz.prog W base sp hd 39 v d ps) :
    ∃ (ap : Bool) (s e : Int × Int × Bool) (lv : Int) (br : Bool), In8 s ∧ In8 e ∧ -128 ≤ lv ∧ lv ≤ 127 ∧ v = .agg #[.bool ap, .int .i8 s.1, .int .i8 s.2.1, .bool s.2.2, .int .i8 e.1, .int .i8 e.2.1, .bool e.2.2, .int .i8 lv, .bool br] := by
  obtain ⟨cs, rfl, _⟩ := okWide_struct Tryz.underlying39 hv
  obtain ⟨fuel, hf⟩ := h
  obtain ⟨ap, s, e, lv, br, hs, he, h1, h2, hc⟩ := trod_claim hf
  refine ⟨ap, s, e, lv, br, hs, he, h1, h2, ?_⟩
  have : cs = ([.bool ap] ++ tcells s ++ tcells e ++ [.int .i8 lv, .bool br] : List Value).toArray := by
    have h2 : cs.toList = ([.bool ap] ++ tcells s ++ tcells e ++ [.int .i8 lv, .bool br] : List Value) := by simpa [Value.cells] using hc
    rw [← h2]
  rw [this]; rfl
theorem certifies_any (va vb : Value) (a b : List (Int × Int × Bool)) (ap : Bool) (s d : Int × Int × Bool) (lv : Int) (br : Bool) (w : World) (ha : TV w va a) (hb : TV w vb b) (hia : ∀ s ∈ a, In8 s) (hib : ∀ s ∈ b, In8 s) (hna : a.length ≤ 9223372036854775807) (hnb : b.length ≤ 9223372036854775807)
    (hs : In8 s) (hd : In8 d) (h1 : -128 ≤ lv) (h2 : lv ≤ 127) :
    Calls Tryz.prog 4 #[va, vb, .agg #[.bool ap, .int .i8 s.1, .int .i8 s.2.1, .bool s.2.2, .int .i8 d.1, .int .i8 d.2.1, .bool d.2.2, .int .i8 lv, .bool br]] w fun e w' => e = .returned (.bool true) ∧ Below w.heap.size w w' := by
  obtain ⟨Aa, ca, rfl, hca, hma, hxa⟩ := ha
  obtain ⟨Ab, cb, rfl, hcb, hmb, hxb⟩ := hb
  exact certifies_walk Aa Ab ca cb a b ap s d lv br w ⟨Aa, ca, rfl, hca, hma, hxa⟩ ⟨Ab, cb, rfl, hcb, hmb, hxb⟩ hia hib hna hnb hca hcb hs hd h1 h2

theorem ownK : ownKnob Tryz.prog.godebug = none := by kernel_rfl
theorem laidOutK : laidOutB Tryz.prog = true := by kernel_rfl
set_option maxRecDepth 100000 in
theorem convexCertifies_lifted (os : Os) (started : os.Started) (H : Type) (enc : TypeId × Value → H) :
    ReturnsInHanded {} Tryz.checked os 4 .any (fun w args => (Rows.convexCertifiesSpec.pre enc Tryz.prog Tryz.f4 [] false w args ∧ laidMetH Tryz.prog Rows.convexCertifiesRow.laid w) ∧ sizedMet enc Tryz.prog Tryz.f4 (OpenSpec.ofChange Rows.convexCertifiesSpec) false w args)
      (Rows.convexCertifiesSpec.post enc Tryz.prog Tryz.f4 false true false false) := by
  refine returnsInHanded_of_change_and (C := Tryz.checked) (X := fun w _ => laidMetH Tryz.prog Rows.convexCertifiesRow.laid w) (fun _ _ _ hh h => h.of_heap hh) ownK started (by kernel_rfl) Tryz.func4
    (ChangeSpec.witness_shaped (enc := enc) (C := Tryz.checked) (os := os) (X := fun w _ => laidMetH Tryz.prog Rows.convexCertifiesRow.laid w) false (World.laidAll Tryz.prog os Rows.convexCertifiesRow.laid) #[.slice none 0 0, .slice none 0 0, .agg #[.bool false, .int .i8 0, .int .i8 0, .bool false, .int .i8 0, .int .i8 0, .bool false, .int .i8 0, .bool false]] 8 (World.laidAll_os _ _ _) (World.shaped_of_ZipB (by kernel_rfl) (by kernel_rfl)) (by kernel_rfl) (by kernel_rfl) (by kernel_rfl)
      (by rw [MakeChecks.laidMetH_plain _ _ _ (by kernel_rfl)]; exact laidMet_laidAll _ (by kernel_rfl) (by kernel_rfl))) ?_
  intro W base args ds gs before hval0 hW _ _ _ _
  have hval : ∀ (j : Nat) t v, Tryz.f4.params[j]? = some t → args[j]? = some v → Value.okWide Tryz.prog W .any base t v := hval0
  have hW' := hW
  obtain ⟨p, q, hA0, hV, rfl, hfz, hnd⟩ := hW
  have hA : DataW.TrodAll enc Tryz.prog W 0 (fun _ => true) true Tryz.f4.params.toList args.toList ds p := hA0
  rw [Tryz.params4] at hA hval
  obtain ⟨v0, v1, v2, d0, d1, d2, p0, p1, p2, rfl, rfl, rfl, h0, h1, h2⟩ := trodAll_three hA
  obtain ⟨rfl, rfl⟩ := trodVars_none hV
  obtain ⟨l0, hT0, hI0, hn0⟩ := open_spots (hval 0 _ v0 rfl rfl) h0
  obtain ⟨l1, hT1, hI1, hn1⟩ := open_spots (hval 1 _ v1 rfl rfl) h1
  obtain ⟨ap2, cs2, ds2, lv2, br2, hcs2, hds2, hl12, hl22, hv2⟩ := open_claim (hval 2 _ v2 rfl rfl) h2
  clear hA0 hval0
  simp only [List.append_nil, List.append_assoc] at hW'
  have hlt : ∀ x ∈ p0 ++ (p1 ++ p2), x.block < W.heap.size := fun x hx => by simpa using hW'.lt x hx
  have hargs : ∀ (W' : World), RowKit.Below W.heap.size W W' → DataW.TrodAll enc Tryz.prog W' 0 (fun b => decide (b < W.heap.size)) true [22, 22, 39] [v0, v1, v2] [d0, d1, d2] (p0 ++ (p1 ++ p2)) :=
    fun W' hn => trodAll_mk3 (RowKit.Below.trod laidOutK (by kernel_rfl) (of_decide_eq_true (by kernel_rfl)) h0 hn fun x hx => hlt x (List.mem_append_left _ hx)) (RowKit.Below.trod laidOutK (by kernel_rfl) (of_decide_eq_true (by kernel_rfl)) h1 hn fun x hx => hlt x (List.mem_append_right _ (List.mem_append_left _ hx))) (RowKit.Below.trod laidOutK (by kernel_rfl) (of_decide_eq_true (by kernel_rfl)) h2 hn fun x hx => hlt x (List.mem_append_right _ (List.mem_append_right _ hx)))
  subst hv2
  refine (certifies_any v0 v1 l0 l1 ap2 cs2 ds2 lv2 br2 W hT0 hT1 hI0 hI1 (by simpa [maxLen] using hn0) (by simpa [maxLen] using hn1) hcs2 hds2 hl12 hl22).mono fun e W' ⟨he, hB⟩ => ?_
  subst he
  exact ⟨_, rfl, _, _, _, [], p0 ++ (p1 ++ p2), [], hW', trodAll_mk1 (shut_bool Tryz.underlying4 _), hargs W' hB.kit, rfl, hB.kit.frame _, fun h => by cases h⟩
theorem convexCertifies_holds : Rows.ConvexCertifiesSaid :=
  OpenClaim.holds_of_wide 4 Tryz.f4 rfl rfl rfl rfl rfl rfl rfl ⟨rfl, rfl, rfl, rfl, rfl⟩ rfl rfl rfl rfl rfl (by kernel_rfl) Tryz.func4 (by kernel_rfl)
    (of_decide_eq_true (by kernel_rfl)) (by unfold Func.isWrapper; first | (rw [if_pos (by decide +kernel)]; kernel_rfl) | (rw [if_neg (by decide +kernel)]; exact ⟨rfl, rfl⟩))
    (fun os started H enc _ => convexCertifies_lifted os started H enc)
/-- The statement. -/
theorem convexCertifies_card_holds : Rows.ConvexCertifiesCardSaid :=
  Claim7.holds_tied_plain_at .later [] [.data, .pinned] true (true, "58f1938c111bd1910912a1ccb0108aa688cdcb44b984c39e7af97087fdbd55b0") false
    convexCertifies_holds (fun _ h => by cases h) (by kernel_rfl) (fun _ h => by cases h) convexCertifies_row_tie rfl ⟨rfl, rfl⟩ (by kernel_rfl) rfl
    (fun f fn hf hfn => by
      obtain rfl : f = 4 := Option.some.inj ((show Tryz.prog.funcNamed Rows.convexCertifiesRow.func = some 4 by kernel_rfl).symm.trans hf) |>.symm
      obtain rfl : fn = Tryz.f4 := (Option.some.inj (Tryz.func4.symm.trans hfn)).symm
      exact ⟨by kernel_rfl, fun j t ht => by
        rw [Tryz.params4] at ht
        have hm : t ∈ [22, 22, 39] := by simpa using Array.mem_of_getElem? ht
        have hall : ([22, 22, 39].all fun u => !Tryz.prog.wantsStandIn u) = true := by kernel_rfl
        exact (show Tryz.prog.wantsStandIn t = false by simpa using List.all_eq_true.1 hall t hm)⟩)
    (by kernel_rfl)
end Go.Proofs.YtdkkjfnpinckjaaGreatDoor
