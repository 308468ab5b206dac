/-
 The law PolygonLocates: the statement.
-/
import Derived.Test.YtiochgoocbkckaaGreatDoorAgav
import Derived.Test.YtiochgoocbkckaaGreatDoorBCp1
import Derived.Test.YtiochgoocbkckaaGreatDoorCards
import Derived.Test.YtiochgoocbkckaaGreatDoorTie
import Derived.SevenTiedAt
import Derived.Lay
import Derived.Carry
set_option maxRecDepth 100000
set_option linter.unusedSimpArgs false
set_option linter.unusedVariables false
namespace Go.Proofs.YtiochgoocbkckaaGreatDoor
open Go Go.ChangeShapes Go.WideShapes Go.ChangeAt Go.WideMaps Go.WideElems Go.RowKit
set_option maxRecDepth 100000

theorem ownK:ownKnob Tryz.prog.godebug=none:=by kernel_rfl
theorem laidOutK:laidOutB Tryz.prog=true:=by kernel_rfl
theorem polygonLocates_lifted (os:Os) (started:os.Started) (H:Type) (enc:TypeId×Value→H) :
 ReturnsInHanded {} Tryz.checked os 7 .any (fun w args=>(Rows.polygonLocatesSpec.pre enc Tryz.prog Tryz.f7 [] false w args∧laidMetH Tryz.prog Rows.polygonLocatesRow.laid w)∧sizedMet enc Tryz.prog Tryz.f7 (OpenSpec.ofChange Rows.polygonLocatesSpec) false w args)
  (Rows.polygonLocatesSpec.post enc Tryz.prog Tryz.f7 false true false false):=by
 refine returnsInHanded_of_change_and (C:=Tryz.checked) (X:=fun w _=>laidMetH Tryz.prog Rows.polygonLocatesRow.laid w) (fun _ _ _ hh h=>h.of_heap hh) ownK started (by kernel_rfl) Tryz.func7
  (ChangeSpec.witness_shaped (enc:=enc) (C:=Tryz.checked) (os:=os) (X:=fun w _=>laidMetH Tryz.prog Rows.polygonLocatesRow.laid w) false (World.laidAll Tryz.prog os Rows.polygonLocatesRow.laid) #[.agg #[.int .u8 0,.int .u8 0,.int .u8 0,.int .u8 0,.int .u8 0,.int .u8 0,.int .u8 0,.int .u8 0,.int .i8 0,.int .i8 0,.int .u8 0,.int .u8 0,.bool false],.agg #[.int .i8 0,.int .i8 0,.bool false]] 8 (World.laidAll_os _ _ _) (World.shaped_of_ZipB (by kernel_rfl) (by kernel_rfl)) (by kernel_rfl) (by kernel_rfl) (by kernel_rfl)
   (by rw [MakeChecks.laidMetH_plain _ _ _ (by kernel_rfl)];exact laidMet_laidAll _ (by kernel_rfl) (by kernel_rfl))) ?_
 intro W base args ds gs before hval0 hW _ _ _ _;have hval:∀ (j:Nat) t v,Tryz.f7.params[j]?=some t→args[j]?=some v→Value.okWide Tryz.prog W .any base t v:=hval0
 have hW':=hW;obtain ⟨p,q,hA0,hV,rfl,hfz,hnd⟩:=hW;have hA:DataW.TrodAll enc Tryz.prog W 0 (fun _=>true) true Tryz.f7.params.toList args.toList ds p:=hA0;rw [Tryz.params7] at hA hval;obtain ⟨v0,v1,d0,d1,p0,p1,rfl,rfl,rfl,h0,h1⟩:=trodAll_two hA;obtain ⟨rfl,rfl⟩:=trodVars_none hV;obtain ⟨S0,hok0,hv0⟩:=open_shape (hval 0 _ v0 rfl rfl) h0;obtain ⟨s1,hs1,hv1⟩:=open_spot1 (hval 1 _ v1 rfl rfl) h1;clear hA0 hval0;simp only [List.append_nil,List.append_assoc] at hW';have hlt:∀ x∈p0++p1,x.block<W.heap.size:=fun x hx=>by simpa using hW'.lt x hx
 have hargs:∀ (W':World),RowKit.Below W.heap.size W W'→DataW.TrodAll enc Tryz.prog W' 0 (fun b=>decide (b<W.heap.size)) true [33,53] [v0,v1] [d0,d1] (p0++p1) :=
  fun W' hn=>trodAll_mk2 (RowKit.Below.trod laidOutK (by kernel_rfl) (of_decide_eq_true (by kernel_rfl)) h0 hn fun x hx=>hlt x (List.mem_append_left _ hx)) (RowKit.Below.trod laidOutK (by kernel_rfl) (of_decide_eq_true (by kernel_rfl)) h1 hn fun x hx=>hlt x (List.mem_append_right _ hx))
 subst hv0;subst hv1;refine (llocates_any S0 s1 W hok0 hs1).mono fun e W' ⟨he,hB⟩ => ?_
 subst he;exact ⟨_,rfl,_,_,_,[],p0++p1,[],hW',trodAll_mk1 (shut_bool Tryz.underlying4 _),hargs W' hB.kit,rfl,hB.kit.frame _,fun h=>by cases h⟩
set_option maxHeartbeats 4000000 in
theorem polygonLocates_holds:Rows.PolygonLocatesSaid :=
 OpenClaim.holds_of_wide 7 Tryz.f7 rfl rfl rfl rfl rfl rfl rfl ⟨rfl,rfl,rfl,rfl,rfl⟩ rfl rfl rfl rfl rfl (by as_aux_lemma=>kernel_rfl) Tryz.func7 (by as_aux_lemma=>kernel_rfl)
  (of_decide_eq_true (by as_aux_lemma=>kernel_rfl)) (by unfold Func.isWrapper;first|(rw [if_pos (by decide +kernel)];as_aux_lemma=>kernel_rfl)|(rw [if_neg (by decide +kernel)];exact ⟨rfl,rfl⟩))
  (fun os started H enc _=>polygonLocates_lifted os started H enc)
set_option maxHeartbeats 4000000 in
theorem polygonLocates_card_holds:Rows.PolygonLocatesCardSaid :=
 Claim7.holds_tied_plain_at .later [] [.data,.pinned] true (true, "043bb0be6e0f4336c486c30fa2ae68132307b92901ed44789437448a649a7946") false
  polygonLocates_holds (fun _ h=>by cases h) (by as_aux_lemma=>kernel_rfl) (fun _ h=>by cases h) polygonLocates_row_tie rfl ⟨rfl,rfl⟩ (by as_aux_lemma=>kernel_rfl) rfl
  (fun f fn hf hfn=>by
   obtain rfl:f=7 := Option.some.inj ((show Tryz.prog.funcNamed Rows.polygonLocatesRow.func=some 7 by as_aux_lemma=>kernel_rfl).symm.trans hf) |>.symm;obtain rfl:fn=Tryz.f7 := (Option.some.inj (Tryz.func7.symm.trans hfn)).symm
   exact ⟨by as_aux_lemma=>kernel_rfl,fun j t ht=>by
    rw [Tryz.params7] at ht;have hm:t∈[33,53]:=by simpa using Array.mem_of_getElem? ht
    have hall:([33,53].all fun u => !Tryz.prog.wantsStandIn u)=true:=by as_aux_lemma=>kernel_rfl
    exact (show Tryz.prog.wantsStandIn t=false by simpa using List.all_eq_true.1 hall t hm)⟩)
  (by as_aux_lemma=>kernel_rfl)
end Go.Proofs.YtiochgoocbkckaaGreatDoor
