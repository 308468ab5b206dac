/-
  The law ConvexCertifies: the walk.
-/
import Derived.Test.YtdkkjfnpinckjaaGreatDoorVKnw
import Derived.Test.YtdkkjfnpinckjaaGreatDoorVMr
import Derived.Test.YtdkkjfnpinckjaaGreatDoorVFit
import Derived.Test.YtdkkjfnpinckjaaGreatDoorVLw1
import Derived.Deep.RegionHeld3
import Derived.Deep.DeepCutAuto
import Derived.Test.YtdkkjfnpinckjaaGreatDoorVReg3
set_option linter.unusedSimpArgs false
set_option linter.unusedVariables false
namespace Go.Proofs.YtdkkjfnpinckjaaGreatDoor
open Go Go.RowKit

theorem size_drewC (w : World) : w.drew.heap.size = w.heap.size := rfl
theorem sz82 (x : Int) (hx : x.natAbs ≤ 128) : Pl.Sz 1 (Rat.divInt x 2) := show Pl.Sz 1 (mkRat x 2) from Pl.sz_mkRat (by decide) ((Pl.L_le_iff _ _).2 (by omega)) (by decide)
/-- Fewer spots. -/
theorem TV.take {w : World} {A : Option Addr} {c M : Nat} {l : List (Int × Int × Bool)} (h : TV w (.slice A l.length c) l) (hM : M ≤ l.length) : TV w (.slice A M c) (l.take M) := by
  obtain ⟨A', c', h1, h2, h3, h4⟩ := h
  cases h1
  exact ⟨A, c, by rw [List.length_take, Nat.min_eq_left hM], by rw [List.length_take, Nat.min_eq_left hM]; omega, h3, fun k x hx => h4 k x (by
    rw [List.getElem?_take] at hx
    split at hx
    · exact hx
    · cases hx)⟩
theorem fits_any {S : Nat} (ap : Bool) (va vb : Value) (a b : List (Rat × Rat)) (p n : Rat × Rat) (c : Rat) (w : World) (ha : PV w va a) (hb : PV w vb b) (hsa : ∀ q ∈ a, Pl.SzP S q) (hsb : ∀ q ∈ b, Pl.SzP S q) (hna : a.length ≤ 1000000) (hnb : b.length ≤ 1000000) (hS : S ≤ 100000) (hp : Pl.SzP S p) (hn : Pl.SzP S n) (hc : Pl.Sz S c) :
    Calls Tryz.prog 22 #[va, vb, .bool ap, pv p, pv n, qv c] w fun e w' => e = .returned (.bool (fitsB a b ap p n c)) ∧ Below w.heap.size w w' := by
  cases ap
  · exact fits_meet va vb a b p n c w ha hb hsa hsb hna hnb hS hp hn hc
  · exact fits_apart va vb a b p n c w ha hb hsa hsb hna hnb hS hp hn hc

set_option maxRecDepth 100000 in
theorem csep_none1 (A : Option Addr) (c : Nat) (vb : Value) (ap : Bool) (cm dr : Rat × Rat) (lv : Rat) (w : World) :
    Calls Tryz.prog 23 #[.slice A 0 c, vb, sepv ap cm dr lv] w fun e w' => e = .returned (.int .i64 10) ∧ Below w.heap.size w w' := by
  go_enter Tryz.func23, Tryz.ntmps23
  go_wp2
  go_ret
  refine ⟨rfl, ?_⟩
  repeat (first | with_reducible exact Below.refl _ _ | with_reducible refine bel_alloc ?_ _ | refine Below.setCell ?_ (by first | (simp; done) | (simp; omega) | omega) _)

set_option maxRecDepth 100000 in
theorem csep_none2 (A B : Option Addr) (N c d : Nat) (ap : Bool) (cm dr : Rat × Rat) (lv : Rat) (w : World) (hN : 0 < N) :
    Calls Tryz.prog 23 #[.slice A N c, .slice B 0 d, sepv ap cm dr lv] w fun e w' => e = .returned (.int .i64 10) ∧ Below w.heap.size w w' := by
  have j1 : ((N : Int) == 0) = false := by simp; omega
  have j3 : ¬ (N : Int) = 0 := by omega
  go_enter Tryz.func23, Tryz.ntmps23
  go_wp2
  go_ret
  refine ⟨rfl, ?_⟩
  repeat (first | with_reducible exact Below.refl _ _ | with_reducible refine bel_alloc ?_ _ | refine Below.setCell ?_ (by first | (simp; done) | (simp; omega) | omega) _)

theorem csep_any {S : Nat} (ap : Bool) (va vb : Value) (a b : List (Rat × Rat)) (cm dr : Rat × Rat) (lv : Rat) (w : World) (ha : PV w va a) (hb : PV w vb b) (hsa : ∀ q ∈ a, Pl.SzP S q) (hsb : ∀ q ∈ b, Pl.SzP S q) (hna : a.length ≤ 1000000) (hnb : b.length ≤ 1000000) (hS : S ≤ 100000) (hcm : Pl.SzP S cm) (hdr : Pl.SzP S dr) (hlv : Pl.Sz S lv) :
    Calls Tryz.prog 23 #[va, vb, sepv ap cm dr lv] w fun e w' => e = .returned (.int .i64 (csepR a b ap cm dr lv)) ∧ Below w.heap.size w w' := by
  by_cases h1 : a.length = 0
  · obtain ⟨A, c, rfl, _⟩ := ha.open_
    have : csepR a b ap cm dr lv = 10 := by unfold csepR; rw [if_pos (.inl h1)]
    rw [this, h1]
    exact csep_none1 A c vb ap cm dr lv w
  by_cases h2 : b.length = 0
  · obtain ⟨A, c, rfl, _⟩ := ha.open_
    obtain ⟨B, d, rfl, _⟩ := hb.open_
    have : csepR a b ap cm dr lv = 10 := by unfold csepR; rw [if_pos (.inr h2)]
    rw [this, h2]
    exact csep_none2 A B _ c d ap cm dr lv w (by omega)
  cases ap
  · exact csep_meet va vb a b cm dr lv w ha hb hsa hsb hna hnb hS hcm (by omega) (by omega)
  · have : csepR a b true cm dr lv = csepA a b cm dr lv := by unfold csepR; rw [if_neg (by omega)]; rfl
    rw [this]
    exact csep_apart va vb a b cm dr lv w ha hb hsa hsb hna hnb hS hdr hlv (by omega) (by omega)
/-- The code is what the reference says. -/
theorem csepR_eq (a b : List (Rat × Rat)) (ap : Bool) (cm dr : Rat × Rat) (lv : Rat) : csepR a b ap cm dr lv = if a.length = 0 ∨ b.length = 0 then 10 else if fitsB a b ap cm dr lv = true then 0 else 30 := by
  unfold csepR
  split
  · rfl
  cases ap
  · simp only [Bool.false_eq_true, if_false, fitsB, Bool.and_eq_true, decide_eq_true_eq]
    have h1 := Pl.locR3 a cm
    have h2 := Pl.locR3 b cm
    by_cases e1 : dr = (0, 0) <;> by_cases e2 : lv = 0 <;> simp only [e1, e2, ne_eq, not_true_eq_false, not_false_eq_true, true_or, or_true, false_or, if_true, false_and, and_false, true_and, if_false]
    split <;> split <;> first | rfl | (exfalso; omega)
  · have h3 : ∀ (l : List (Rat × Rat)) (sg : Int), l.any (beyB dr lv sg) = !(l.all fun q => Pl.cmpQ (Pl.dotP q dr) lv == sg) := fun l sg => by
      induction l with
      | nil => rfl
      | cons x l ih => rw [List.any_cons, List.all_cons, ih, Bool.not_and]; congr 1
    simp only [if_true, fitsB, csepA, h3]
    by_cases e1 : cm = (0, 0) <;> simp [e1]
    cases a.all _ <;> cases b.all _ <;> simp
set_option maxRecDepth 100000 in
set_option maxHeartbeats 4000000 in
theorem certifies_walk (Aa Ab : Option Addr) (ca cb : Nat) (a b : List (Int × Int × Bool)) (ap : Bool) (cs ds : Int × Int × Bool) (lv : Int) (br : Bool) (w : World) (ha' : TV w (.slice Aa a.length ca) a) (hb' : TV w (.slice Ab b.length cb) b) (hia : ∀ s ∈ a, In8 s) (hib : ∀ s ∈ b, In8 s) (hna : a.length ≤ 9223372036854775807) (hnb : b.length ≤ 9223372036854775807) (hca : a.length ≤ ca) (hcb : b.length ≤ cb) (hcs : In8 cs) (hds : In8 ds) (hl1 : -128 ≤ lv) (hl2 : lv ≤ 127) :
    Calls Tryz.prog 4 #[.slice Aa a.length ca, .slice Ab b.length cb, .agg #[.bool ap, .int .i8 cs.1, .int .i8 cs.2.1, .bool cs.2.2, .int .i8 ds.1, .int .i8 ds.2.1, .bool ds.2.2, .int .i8 lv, .bool br]] w fun e w' => e = .returned (.bool true) ∧ Below w.heap.size w w' := by
  have hlta := TV.take (M := min a.length 8) ha' (Nat.min_le_left _ _)
  obtain ⟨Ma, hMa⟩ : ∃ M, M = min a.length 8 := ⟨_, rfl⟩
  rw [← hMa] at hlta
  have hM8a : Ma ≤ 8 := by omega
  have hMNa : Ma ≤ a.length := by omega
  have HTA := Lib.hid hlta
  have HIA : Hid (∀ s ∈ a.take Ma, In8 s) := Lib.hid fun s hs => hia s (List.mem_of_mem_take hs)
  obtain ⟨X, hSa⟩ : ∃ S, Pl.wrap (ptsOf (a.take Ma)) = S := ⟨_, rfl⟩
  have HSWA := Lib.hid hSa
  have HSX : Hid (∀ q ∈ X, Pl.SzP 1 q) := Lib.hid (hSa ▸ wrap_sz (ptsOf_sz HIA.out))
  have HNX : Hid (X.length ≤ 1000000) := Lib.hid (by have := wrap_len (ptsOf (a.take Ma)); have := ptsOf_len (a.take Ma); rw [hSa] at *; omega)
  obtain ⟨NX, hNX⟩ : ∃ n, n = X.length := ⟨_, rfl⟩
  have HLX := Lib.hid hNX
  clear hNX hSa hlta
  have hmia : min (a.length : Int) 8 = (Ma : Int) := by omega
  have hifa : (if (8 : Int) < (a.length : Int) then (8 : Int) else (a.length : Int)) = (Ma : Int) := by split <;> omega
  generalize hNa : a.length = Na at *
  have hmca : (Ma : Int) ≤ ca := by omega
  have hmna : (Ma : Int) ≤ Na := by omega
  clear ha' hia hMa
  have hltb := TV.take (M := min b.length 8) hb' (Nat.min_le_left _ _)
  obtain ⟨Mb, hMb⟩ : ∃ M, M = min b.length 8 := ⟨_, rfl⟩
  rw [← hMb] at hltb
  have hM8b : Mb ≤ 8 := by omega
  have hMNb : Mb ≤ b.length := by omega
  have HTB := Lib.hid hltb
  have HIB : Hid (∀ s ∈ b.take Mb, In8 s) := Lib.hid fun s hs => hib s (List.mem_of_mem_take hs)
  obtain ⟨Y, hSb⟩ : ∃ S, Pl.wrap (ptsOf (b.take Mb)) = S := ⟨_, rfl⟩
  have HSWB := Lib.hid hSb
  have HSY : Hid (∀ q ∈ Y, Pl.SzP 1 q) := Lib.hid (hSb ▸ wrap_sz (ptsOf_sz HIB.out))
  have HNY : Hid (Y.length ≤ 1000000) := Lib.hid (by have := wrap_len (ptsOf (b.take Mb)); have := ptsOf_len (b.take Mb); rw [hSb] at *; omega)
  obtain ⟨NY, hNY⟩ : ∃ n, n = Y.length := ⟨_, rfl⟩
  have HLY := Lib.hid hNY
  clear hNY hSb hltb
  have hmib : min (b.length : Int) 8 = (Mb : Int) := by omega
  have hifb : (if (8 : Int) < (b.length : Int) then (8 : Int) else (b.length : Int)) = (Mb : Int) := by split <;> omega
  generalize hNb : b.length = Nb at *
  have hmcb : (Mb : Int) ≤ cb := by omega
  have hmnb : (Mb : Int) ≤ Nb := by omega
  clear hb' hib hMb
  obtain ⟨r1, r2⟩ := small64 lv hl1 hl2
  go_enter Tryz.func4, Tryz.ntmps4
  go_upto_region 1 with fail
  refine wp_named ?_
  intro W1 hW1
  have hL1 : Below w.heap.size w W1 := by
    rw [hW1]
    repeat (first | with_reducible exact Below.refl _ _ | with_reducible refine bel_alloc ?_ _ | refine Below.setCell ?_ (by first | (simp; done) | (simp; omega) | omega) _)
  have c1 : Own W1 (w.heap.size) 0 [.bool ap, .int .i8 cs.1, .int .i8 cs.2.1, .bool cs.2.2, .int .i8 ds.1, .int .i8 ds.2.1, .bool ds.2.2, .int .i8 lv, .bool br] := by
    rw [hW1]
    first
    | (repeat (first | (with_reducible refine own_new (l := [.bool ap, .int .i8 cs.1, .int .i8 cs.2.1, .bool cs.2.2, .int .i8 ds.1, .int .i8 ds.2.1, .bool ds.2.2, .int .i8 lv, .bool br]) ?_; (simp; done)) | with_reducible refine Own.alloc ?_ _ | refine Own.far _ _ (by first | (simp; done) | (simp [*]; done) | (simp; omega)) ?_)); done
    | simp [Own, go_sem]
  have hB2 : Below w.heap.size w W1 := by
    rw [hW1]
    repeat (first | with_reducible exact Below.refl _ _ | with_reducible refine bel_alloc ?_ _ | refine Below.setCell ?_ (by first | (simp; done) | (simp; omega) | omega) _)
  clear hW1 hL1
  have K3 := Lib.hid (fun W (h : TV W (.slice Aa Ma ca) (a.take Ma)) => HSWA.out ▸ set_any (.slice Aa Ma ca) (a.take Ma) W h HIA.out (by rw [List.length_take]; omega))
  have K5 := Lib.hid (fun W (h : TV W (.slice Ab Mb cb) (b.take Mb)) => HSWB.out ▸ set_any (.slice Ab Mb cb) (b.take Mb) W h HIB.out (by rw [List.length_take]; omega))
  have HSS7 : ∀ w' : World, Below W1.heap.size W1 w' → (w'.cell? ⟨w.heap.size, 0, none⟩ = some (.bool ap) ∧ w'.cell? ⟨w.heap.size, 1, none⟩ = some (.int .i8 cs.1) ∧ w'.cell? ⟨w.heap.size, 2, none⟩ = some (.int .i8 cs.2.1) ∧ w'.cell? ⟨w.heap.size, 3, none⟩ = some (.bool cs.2.2) ∧ w'.cell? ⟨w.heap.size, 4, none⟩ = some (.int .i8 ds.1) ∧ w'.cell? ⟨w.heap.size, 5, none⟩ = some (.int .i8 ds.2.1) ∧ w'.cell? ⟨w.heap.size, 6, none⟩ = some (.bool ds.2.2) ∧ w'.cell? ⟨w.heap.size, 7, none⟩ = some (.int .i8 lv) ∧ w'.cell? ⟨w.heap.size, 8, none⟩ = some (.bool br)) := fun w' hb => by
    have qc1 := c1.up hb
    simp only [At, Own, CE, CS, Nat.reduceAdd, Nat.reduceMul, Nat.zero_mul, Nat.add_zero, Nat.add_assoc, and_true] at qc1
    try simp only [Nat.add_assoc, Nat.reduceAdd]
    simp [*]
  go_cut [7, 8] (fun x7 x8 wx => PV wx x7 X ∧ PV wx x8 Y ∧ Below W1.heap.size W1 wx)
  case first =>
    have hu := HSS7 W1 (Below.refl _ _)
    go_region_held3 (fun w' => w'.cell? ⟨w.heap.size, 0, none⟩ = some (.bool ap) ∧ w'.cell? ⟨w.heap.size, 1, none⟩ = some (.int .i8 cs.1) ∧ w'.cell? ⟨w.heap.size, 2, none⟩ = some (.int .i8 cs.2.1) ∧ w'.cell? ⟨w.heap.size, 3, none⟩ = some (.bool cs.2.2) ∧ w'.cell? ⟨w.heap.size, 4, none⟩ = some (.int .i8 ds.1) ∧ w'.cell? ⟨w.heap.size, 5, none⟩ = some (.int .i8 ds.2.1) ∧ w'.cell? ⟨w.heap.size, 6, none⟩ = some (.bool ds.2.2) ∧ w'.cell? ⟨w.heap.size, 7, none⟩ = some (.int .i8 lv) ∧ w'.cell? ⟨w.heap.size, 8, none⟩ = some (.bool br)) (refine HSS7 _ ?_ <;> (repeat (first | with_reducible exact Below.refl _ _ | with_reducible refine bel_alloc ?_ _ | with_reducible refine Below.drew ?_ | (refine Below.setCell ?_ (by first | (simp; done) | (simp; omega) | omega) _) | with_reducible refine bel_up ?_ (by with_reducible assumption)))) (first
      | (go_at_call 16; with_reducible refine (K3.out _ (HTA.out.up (bel_up hB2 (by (repeat (first | with_reducible exact Below.refl _ _ | with_reducible refine bel_alloc ?_ _ | with_reducible refine Below.drew ?_ | (refine Below.setCell ?_ (by first | (simp; done) | (simp; omega) | omega) _) | with_reducible refine bel_up ?_ (by with_reducible assumption))))))).mono ?_; rintro e v_4 ⟨vv_4, rfl, hv_4, hbq_4⟩; have hsz_4 := hbq_4.size; (try simp [size_drewC] at hsz_4))
      | (go_at_call 16; with_reducible refine (K5.out _ (HTB.out.up (bel_up hB2 (by (repeat (first | with_reducible exact Below.refl _ _ | with_reducible refine bel_alloc ?_ _ | with_reducible refine Below.drew ?_ | (refine Below.setCell ?_ (by first | (simp; done) | (simp; omega) | omega) _) | with_reducible refine bel_up ?_ (by with_reducible assumption))))))).mono ?_; rintro e v_6 ⟨vv_6, rfl, hv_6, hbq_6⟩; have hsz_6 := hbq_6.size; (try simp [size_drewC] at hsz_6)))
    all_goals
      go_wp2_with fail
      go_meet
      refine ⟨(hv_4.up (by repeat (first | with_reducible exact Below.refl _ _ | with_reducible refine bel_alloc ?_ _ | with_reducible refine Below.drew ?_ | (refine Below.setCell ?_ (by first | (simp; done) | (simp; omega) | omega) _) | with_reducible refine bel_up ?_ (by with_reducible assumption)))), (hv_6.up (by repeat (first | with_reducible exact Below.refl _ _ | with_reducible refine bel_alloc ?_ _ | with_reducible refine Below.drew ?_ | (refine Below.setCell ?_ (by first | (simp; done) | (simp; omega) | omega) _) | with_reducible refine bel_up ?_ (by with_reducible assumption)))), ?_⟩
      · (repeat (first | with_reducible exact Below.refl _ _ | with_reducible refine bel_alloc ?_ _ | with_reducible refine Below.drew ?_ | (refine Below.setCell ?_ (by first | (simp; done) | (simp; omega) | omega) _) | with_reducible refine bel_up ?_ (by with_reducible assumption)))
  case rest =>
    obtain ⟨lv8, lv9, hbz1⟩ := hcut
    obtain ⟨wz1, hwz1⟩ : ∃ W_, W_ = wc := ⟨_, rfl⟩
    subst hwz1
    clear HSS7
    have c10 := c1.up hbz1
    have hB11 : Below w.heap.size w wz1 := bel_up hB2 hbz1
    clear c1
    have PV12 := Lib.hid lv8
    clear lv8
    have PV14 := Lib.hid lv9
    clear lv9
    go_upto_region 2 with fail
    refine wp_named ?_
    intro W2 hW2
    have hL2 : Below wz1.heap.size wz1 W2 := by
      rw [hW2]
      repeat (first | with_reducible exact Below.refl _ _ | with_reducible refine bel_alloc ?_ _ | refine Below.setCell ?_ (by first | (simp; done) | (simp; omega) | omega) _)
    have c16 := c10.up hL2
    have hA17 := hL2
    have hB18 : Below w.heap.size w W2 := by
      rw [hW2]
      repeat (first | with_reducible exact hB11 | with_reducible refine bel_alloc ?_ _ | refine Below.setCell ?_ (by first | (simp; done) | (simp; omega) | omega) _)
    clear hW2 hL2 c10
    have ZA19 := hA17
    have Z5 := c16
    have ZB := hB18
    have K21 := Lib.hid (fun W => point_any cs W hcs)
    have K22 := Lib.hid (fun W => point_any ds W hds)
    have K23 := Lib.hid (fun W => rOf_any lv 2 W (by decide) (by omega) (by omega) (by decide) (by decide))
    refine wp_region_new1 14 13 9 [.bool false, .bool false, .string ⟨#[]⟩, .bool false, .string ⟨#[]⟩, .bool false, .string ⟨#[]⟩, .bool false, .string ⟨#[]⟩, .bool false, .string ⟨#[]⟩, .bool false, .string ⟨#[]⟩, .bool false, .string ⟨#[]⟩, .bool false, .string ⟨#[]⟩, .bool false, .string ⟨#[]⟩, .bool false, .string ⟨#[]⟩] 42 (by kernel_rfl) (by kernel_rfl) rfl rfl rfl rfl (by intro h_; cases h_) (by simp) (run_alloc_zero Tryz.zeroValue42 rfl) (by kernel_rfl) ?_
    intro V_20 hV_20
    have vc16 := c16.up hV_20; have dc16 := fun p : Bel V_20 => vc16.bel p
    simp only [At, Own, Nat.reduceAdd, and_true] at dc16
    have hBV_20 := bel_up hB18 hV_20
    have hA25 := bel_up hA17 hV_20
    simp only [List.map_cons, List.map_nil, maskOp, List.take_succ_cons, List.take_zero]
    repeat (go_big_quiet_step (first | (go_at_call 19; with_reducible exact Calls.bel (K21.out _)) | (go_at_call 19; with_reducible exact Calls.bel (K22.out _)) | (go_at_call 21; with_reducible exact Calls.bel (K23.out _))))
    refine wpQuiet_nil ?_
    refine ⟨[.bool ap, .bool (ng (((ptOf cs).1).num)), .string (mg (((ptOf cs).1).num).natAbs), .bool false, .string (mg (dn ((ptOf cs).1))), .bool (ng (((ptOf cs).2).num)), .string (mg (((ptOf cs).2).num).natAbs), .bool false, .string (mg (dn ((ptOf cs).2))), .bool (ng (((ptOf ds).1).num)), .string (mg (((ptOf ds).1).num).natAbs), .bool false, .string (mg (dn ((ptOf ds).1))), .bool (ng (((ptOf ds).2).num)), .string (mg (((ptOf ds).2).num).natAbs), .bool false, .string (mg (dn ((ptOf ds).2))), .bool (ng ((Rat.divInt lv 2).num)), .string (mg ((Rat.divInt lv 2).num).natAbs), .bool false, .string (mg (dn (Rat.divInt lv 2)))], rfl, rfl, by simp [Value.oneCell'], ?_⟩
    intro bq24 wn_20 hbn_20 lbq24 mbq24 c26
    simp only [Act.put, List.setIfInBounds_toArray, List.set_cons_zero, List.set_cons_succ]
    have ne27 : w.heap.size ≠ bq24 := by have := c16.lt; omega
    have ne27' := ne27.symm
    have wbq24 := Nat.le_trans hB18.size lbq24
    have an28 : wz1.heap.size ≤ bq24 := Nat.le_trans hA17.size lbq24
    clear hA25 hBV_20 dc16 vc16 hV_20 V_20
    have c29 := c16.up hbn_20
    have hA30 := bel_up hA17 hbn_20
    have hB31 : Below w.heap.size w wn_20 := bel_up hB18 hbn_20
    clear c16 hA17
    go_upto_region 3 with fail
    have uc29 := c29; have uc26 := c26
    simp only [At, Own, Nat.reduceAdd, and_true] at uc29 uc26
    go_cut [41] (fun x41 wx => x41 = .bool (br && ap) ∧ wn_20 = wx)
    case first =>
      cases br <;> cases ap <;> (go_wp2; go_meet; exact ⟨rfl, rfl⟩)
    case rest =>
      obtain ⟨rfl, hwq⟩ := hcut
      subst hwq
      go_upto_if 41 with fail
      go_cut [] (fun wx => ∃ (cm : Rat × Rat), Pl.SzP 1 cm ∧ Own wx bq24 0 [.bool ap, .bool (ng cm.1.num), .string (mg cm.1.num.natAbs), .bool false, .string (mg (dn cm.1)), .bool (ng cm.2.num), .string (mg cm.2.num.natAbs), .bool false, .string (mg (dn cm.2)), .bool (ng (((ptOf ds).1).num)), .string (mg (((ptOf ds).1).num).natAbs), .bool false, .string (mg (dn ((ptOf ds).1))), .bool (ng (((ptOf ds).2).num)), .string (mg (((ptOf ds).2).num).natAbs), .bool false, .string (mg (dn ((ptOf ds).2))), .bool (ng ((Rat.divInt lv 2).num)), .string (mg ((Rat.divInt lv 2).num).natAbs), .bool false, .string (mg (dn (Rat.divInt lv 2)))] ∧ Below W2.heap.size W2 wx)
      case first =>
        cases hbb : (br && ap)
        · go_wp2
          go_meet
          exact ⟨_, (ptOf_sz hcs), c26, hbn_20⟩
        · go_wp2
          go_meet
          exact ⟨((0 : Rat), (0 : Rat)), ⟨Pl.sz_zero.mono (by omega), Pl.sz_zero.mono (by omega)⟩, (by simp [Own, go_sem, uc29, uc26, ne27, ne27'] <;> (repeat' (first | rfl | apply And.intro))), (by repeat (first | with_reducible exact hbn_20 | refine Below.setCell ?_ (by first | assumption | (simp; done) | (simp; omega) | omega) _))⟩
      case rest =>
        clear uc29 uc26 c29 c26 hA30
        obtain ⟨cm, hcm, c32, hbW33⟩ := hcut
        obtain ⟨ws34, hws34⟩ : ∃ W_, W_ = wc := ⟨_, rfl⟩
        subst hws34
        have c35 := Z5.up hbW33
        have hB36 := bel_up ZB hbW33
        have hA37 := bel_up ZA19 hbW33
        go_upto_region 5 with fail
        have uc35 := c35; have uc32 := c32
        simp only [At, Own, Nat.reduceAdd, and_true] at uc35 uc32
        go_cut [50] (fun x50 wx => x50 = .bool (br && !ap) ∧ ws34 = wx)
        case first =>
          cases br <;> cases ap <;> (go_wp2; go_meet; exact ⟨rfl, rfl⟩)
        case rest =>
          obtain ⟨rfl, hwq⟩ := hcut
          subst hwq
          go_upto_if 50 with fail
          go_cut [] (fun wx => ∃ (dr : Rat × Rat) (lw : Rat), Pl.SzP 1 dr ∧ Pl.Sz 1 lw ∧ Own wx bq24 0 [.bool ap, .bool (ng cm.1.num), .string (mg cm.1.num.natAbs), .bool false, .string (mg (dn cm.1)), .bool (ng cm.2.num), .string (mg cm.2.num.natAbs), .bool false, .string (mg (dn cm.2)), .bool (ng dr.1.num), .string (mg dr.1.num.natAbs), .bool false, .string (mg (dn dr.1)), .bool (ng dr.2.num), .string (mg dr.2.num.natAbs), .bool false, .string (mg (dn dr.2)), .bool (ng lw.num), .string (mg lw.num.natAbs), .bool false, .string (mg (dn lw))] ∧ Below W2.heap.size W2 wx)
          case first =>
            cases hbb : (br && !ap)
            · go_wp2
              go_meet
              exact ⟨_, _, (ptOf_sz hds), (sz82 lv (by omega)), c32, hbW33⟩
            · go_wp2
              go_meet
              exact ⟨((0 : Rat), (0 : Rat)), (0 : Rat), ⟨Pl.sz_zero.mono (by omega), Pl.sz_zero.mono (by omega)⟩, (Pl.sz_zero.mono (by omega)), (by simp [Own, go_sem, uc35, uc32, ne27, ne27'] <;> (repeat' (first | rfl | apply And.intro))), (by repeat (first | with_reducible exact hbW33 | refine Below.setCell ?_ (by first | assumption | (simp; done) | (simp; omega) | omega) _))⟩
          case rest =>
            clear uc35 uc32 c35 c32 hA37
            obtain ⟨dr, lw, hdr, hlw, c38, hbW39⟩ := hcut
            obtain ⟨ws40, hws40⟩ : ∃ W_, W_ = wc := ⟨_, rfl⟩
            subst hws40
            have c41 := Z5.up hbW39
            have hB42 := bel_up ZB hbW39
            have hA43 := bel_up ZA19 hbW39
            by_cases hc44 : (NX : Int) = 0
            · skip
              obtain ⟨AX, cX, hvX⟩ : ∃ A c, u7 = .slice A NX c := by
                obtain ⟨A, c, h, _⟩ := ((PV12.out.up hA43)).open_
                exact ⟨A, c, by rw [h, HLX.out]⟩
              subst hvX
              obtain ⟨AY, cY, hvY⟩ : ∃ A c, u8 = .slice A NY c := by
                obtain ⟨A, c, h, _⟩ := ((PV14.out.up hA43)).open_
                exact ⟨A, c, by rw [h, HLY.out]⟩
              subst hvY
              have HR := Lib.hid (show csepR X Y ap cm dr lw = 10 from by rw [csepR_eq, if_pos (by have := HLX.out; have := HLY.out; omega)])
              have K45 := Lib.hid (fun W => known_any W)
              have uc41 := c41; have uc38 := c38
              simp only [At, Own, Nat.reduceAdd, and_true] at uc41 uc38
              go_wp2_with (fail)
              refine calls_named ?_
              intro W3 hW3
              have hL3 : Below ws40.heap.size ws40 W3 := by
                rw [hW3]
                repeat (first | with_reducible exact Below.refl _ _ | with_reducible refine bel_alloc ?_ _ | refine Below.setCell ?_ (by first | (simp; done) | (simp; omega) | omega) _)
              have c46 := c41.up hL3
              have c47 := c38.up hL3
              have hA48 := bel_up hA43 hL3
              have hB49 : Below w.heap.size w W3 := by
                rw [hW3]
                repeat (first | with_reducible exact hB42 | with_reducible refine bel_alloc ?_ _ | refine Below.setCell ?_ (by first | (simp; done) | (simp; omega) | omega) _)
              clear hW3 hL3 uc41 uc38 c41 c38 hA43
              with_reducible refine (K45.out _).mono ?_
              rintro e w3 ⟨rfl, hb3⟩
              have c50 := c46.up hb3
              have c51 := c47.up hb3
              have hA52 := bel_up hA48 hb3
              have hB53 : Below w.heap.size w w3 := bel_up hB49 hb3
              clear c46 c47 hA48
              have uc50 := c50; have uc51 := c51
              simp only [At, Own, Nat.reduceAdd, and_true] at uc50 uc51
              have K54 := Lib.hid (fun W va vb (ha : PV W va X) (hb : PV W vb Y) => HR.out ▸ csep_any ap va vb X Y cm dr lw W ha hb HSX.out HSY.out HNX.out HNY.out (by decide : 1 ≤ 100000) hcm hdr hlw)
              go_wp2_with (refine wpList_load_own (by rfl) _ _ rfl _ rfl _ _ c51 Tryz.underlying42 (by rfl) (by kernel_rfl) ?_)
              refine calls_named ?_
              intro W4 hW4
              have hL4 : Below w3.heap.size w3 W4 := by
                rw [hW4]
                repeat (first | with_reducible exact Below.refl _ _ | with_reducible refine bel_alloc ?_ _ | refine Below.setCell ?_ (by first | (simp; done) | (simp; omega) | omega) _)
              have c55 := c50.up hL4
              have c56 := c51.up hL4
              have hA57 := bel_up hA52 hL4
              have hB58 : Below w.heap.size w W4 := by
                rw [hW4]
                repeat (first | with_reducible exact hB53 | with_reducible refine bel_alloc ?_ _ | refine Below.setCell ?_ (by first | (simp; done) | (simp; omega) | omega) _)
              clear hW4 hL4 uc50 uc51 c50 c51 hA52
              with_reducible refine (K54.out _ _ _ (PV12.out.up hA57) (PV14.out.up hA57)).mono ?_
              rintro e w4 ⟨rfl, hb4⟩
              have c59 := c55.up hb4
              have c60 := c56.up hb4
              have hA61 := bel_up hA57 hb4
              have hB62 : Below w.heap.size w w4 := bel_up hB58 hb4
              clear c55 c56 hA57
              have uc59 := c59; have uc60 := c60
              simp only [At, Own, Nat.reduceAdd, and_true] at uc59 uc60
              go_wp2
              go_ret
              refine ⟨rfl, ?_⟩
              repeat (first | with_reducible exact hB62 | with_reducible refine bel_alloc ?_ _ | refine Below.setCell ?_ (by first | (simp; done) | (simp; omega) | omega) _)
            · skip
              have hc44_ : (((NX : Int)) == 0) = false := by simpa using hc44
              obtain ⟨AX, cX, hvX⟩ : ∃ A c, u7 = .slice A NX c := by
                obtain ⟨A, c, h, _⟩ := ((PV12.out.up hA43)).open_
                exact ⟨A, c, by rw [h, HLX.out]⟩
              subst hvX
              obtain ⟨AY, cY, hvY⟩ : ∃ A c, u8 = .slice A NY c := by
                obtain ⟨A, c, h, _⟩ := ((PV14.out.up hA43)).open_
                exact ⟨A, c, by rw [h, HLY.out]⟩
              subst hvY
              by_cases hc63 : (NY : Int) = 0
              · skip
                have HR := Lib.hid (show csepR X Y ap cm dr lw = 10 from by rw [csepR_eq, if_pos (by have := HLX.out; have := HLY.out; omega)])
                have K64 := Lib.hid (fun W => known_any W)
                have uc41 := c41; have uc38 := c38
                simp only [At, Own, Nat.reduceAdd, and_true] at uc41 uc38
                go_wp2_with (fail)
                refine calls_named ?_
                intro W5 hW5
                have hL5 : Below ws40.heap.size ws40 W5 := by
                  rw [hW5]
                  repeat (first | with_reducible exact Below.refl _ _ | with_reducible refine bel_alloc ?_ _ | refine Below.setCell ?_ (by first | (simp; done) | (simp; omega) | omega) _)
                have c65 := c41.up hL5
                have c66 := c38.up hL5
                have hA67 := bel_up hA43 hL5
                have hB68 : Below w.heap.size w W5 := by
                  rw [hW5]
                  repeat (first | with_reducible exact hB42 | with_reducible refine bel_alloc ?_ _ | refine Below.setCell ?_ (by first | (simp; done) | (simp; omega) | omega) _)
                clear hW5 hL5 uc41 uc38 c41 c38 hA43
                with_reducible refine (K64.out _).mono ?_
                rintro e w5 ⟨rfl, hb5⟩
                have c69 := c65.up hb5
                have c70 := c66.up hb5
                have hA71 := bel_up hA67 hb5
                have hB72 : Below w.heap.size w w5 := bel_up hB68 hb5
                clear c65 c66 hA67
                have uc69 := c69; have uc70 := c70
                simp only [At, Own, Nat.reduceAdd, and_true] at uc69 uc70
                have K73 := Lib.hid (fun W va vb (ha : PV W va X) (hb : PV W vb Y) => HR.out ▸ csep_any ap va vb X Y cm dr lw W ha hb HSX.out HSY.out HNX.out HNY.out (by decide : 1 ≤ 100000) hcm hdr hlw)
                go_wp2_with (refine wpList_load_own (by rfl) _ _ rfl _ rfl _ _ c70 Tryz.underlying42 (by rfl) (by kernel_rfl) ?_)
                refine calls_named ?_
                intro W6 hW6
                have hL6 : Below w5.heap.size w5 W6 := by
                  rw [hW6]
                  repeat (first | with_reducible exact Below.refl _ _ | with_reducible refine bel_alloc ?_ _ | refine Below.setCell ?_ (by first | (simp; done) | (simp; omega) | omega) _)
                have c74 := c69.up hL6
                have c75 := c70.up hL6
                have hA76 := bel_up hA71 hL6
                have hB77 : Below w.heap.size w W6 := by
                  rw [hW6]
                  repeat (first | with_reducible exact hB72 | with_reducible refine bel_alloc ?_ _ | refine Below.setCell ?_ (by first | (simp; done) | (simp; omega) | omega) _)
                clear hW6 hL6 uc69 uc70 c69 c70 hA71
                with_reducible refine (K73.out _ _ _ (PV12.out.up hA76) (PV14.out.up hA76)).mono ?_
                rintro e w6 ⟨rfl, hb6⟩
                have c78 := c74.up hb6
                have c79 := c75.up hb6
                have hA80 := bel_up hA76 hb6
                have hB81 : Below w.heap.size w w6 := bel_up hB77 hb6
                clear c74 c75 hA76
                have uc78 := c78; have uc79 := c79
                simp only [At, Own, Nat.reduceAdd, and_true] at uc78 uc79
                go_wp2
                go_ret
                refine ⟨rfl, ?_⟩
                repeat (first | with_reducible exact hB81 | with_reducible refine bel_alloc ?_ _ | refine Below.setCell ?_ (by first | (simp; done) | (simp; omega) | omega) _)
              · skip
                have hc63_ : (((NY : Int)) == 0) = false := by simpa using hc63
                have uc41 := c41; have uc38 := c38
                simp only [At, Own, Nat.reduceAdd, and_true] at uc41 uc38
                have kK82 := fun W va vb (ha : PV W va X) (hb : PV W vb Y) => fits_any ap va vb X Y cm dr lw W ha hb HSX.out HSY.out HNX.out HNY.out (by decide : 1 ≤ 100000) hcm hdr hlw
                generalize hT84 : fitsB X Y ap cm dr lw = b83 at kK82
                have K82 := Lib.hid kK82
                clear kK82
                have HhT84 := Lib.hid hT84
                clear hT84
                go_wp2_with (fail)
                refine calls_named ?_
                intro W7 hW7
                have hL7 : Below ws40.heap.size ws40 W7 := by
                  rw [hW7]
                  repeat (first | with_reducible exact Below.refl _ _ | with_reducible refine bel_alloc ?_ _ | refine Below.setCell ?_ (by first | (simp; done) | (simp; omega) | omega) _)
                have c85 := c41.up hL7
                have c86 := c38.up hL7
                have hA87 := bel_up hA43 hL7
                have hB88 : Below w.heap.size w W7 := by
                  rw [hW7]
                  repeat (first | with_reducible exact hB42 | with_reducible refine bel_alloc ?_ _ | refine Below.setCell ?_ (by first | (simp; done) | (simp; omega) | omega) _)
                clear hW7 hL7 uc41 uc38 c41 c38 hA43
                with_reducible refine (K82.out _ _ _ (PV12.out.up hA87) (PV14.out.up hA87)).mono ?_
                rintro e w7 ⟨rfl, hb7⟩
                have c89 := c85.up hb7
                have c90 := c86.up hb7
                have hA91 := bel_up hA87 hb7
                have hB92 : Below w.heap.size w w7 := bel_up hB88 hb7
                clear c85 c86 hA87
                cases b83
                · skip
                  have HR := Lib.hid (show csepR X Y ap cm dr lw = 30 from by rw [csepR_eq, if_neg (by have := HLX.out; have := HLY.out; omega), if_neg (by rw [HhT84.out]; decide)])
                  have K93 := Lib.hid (fun W => known_any W)
                  have uc89 := c89; have uc90 := c90
                  simp only [At, Own, Nat.reduceAdd, and_true] at uc89 uc90
                  go_wp2_with (fail)
                  refine calls_named ?_
                  intro W8 hW8
                  have hL8 : Below w7.heap.size w7 W8 := by
                    rw [hW8]
                    repeat (first | with_reducible exact Below.refl _ _ | with_reducible refine bel_alloc ?_ _ | refine Below.setCell ?_ (by first | (simp; done) | (simp; omega) | omega) _)
                  have c94 := c89.up hL8
                  have c95 := c90.up hL8
                  have hA96 := bel_up hA91 hL8
                  have hB97 : Below w.heap.size w W8 := by
                    rw [hW8]
                    repeat (first | with_reducible exact hB92 | with_reducible refine bel_alloc ?_ _ | refine Below.setCell ?_ (by first | (simp; done) | (simp; omega) | omega) _)
                  clear hW8 hL8 uc89 uc90 c89 c90 hA91
                  with_reducible refine (K93.out _).mono ?_
                  rintro e w8 ⟨rfl, hb8⟩
                  have c98 := c94.up hb8
                  have c99 := c95.up hb8
                  have hA100 := bel_up hA96 hb8
                  have hB101 : Below w.heap.size w w8 := bel_up hB97 hb8
                  clear c94 c95 hA96
                  have uc98 := c98; have uc99 := c99
                  simp only [At, Own, Nat.reduceAdd, and_true] at uc98 uc99
                  have K102 := Lib.hid (fun W va vb (ha : PV W va X) (hb : PV W vb Y) => HR.out ▸ csep_any ap va vb X Y cm dr lw W ha hb HSX.out HSY.out HNX.out HNY.out (by decide : 1 ≤ 100000) hcm hdr hlw)
                  go_wp2_with (refine wpList_load_own (by rfl) _ _ rfl _ rfl _ _ c99 Tryz.underlying42 (by rfl) (by kernel_rfl) ?_)
                  refine calls_named ?_
                  intro W9 hW9
                  have hL9 : Below w8.heap.size w8 W9 := by
                    rw [hW9]
                    repeat (first | with_reducible exact Below.refl _ _ | with_reducible refine bel_alloc ?_ _ | refine Below.setCell ?_ (by first | (simp; done) | (simp; omega) | omega) _)
                  have c103 := c98.up hL9
                  have c104 := c99.up hL9
                  have hA105 := bel_up hA100 hL9
                  have hB106 : Below w.heap.size w W9 := by
                    rw [hW9]
                    repeat (first | with_reducible exact hB101 | with_reducible refine bel_alloc ?_ _ | refine Below.setCell ?_ (by first | (simp; done) | (simp; omega) | omega) _)
                  clear hW9 hL9 uc98 uc99 c98 c99 hA100
                  with_reducible refine (K102.out _ _ _ (PV12.out.up hA105) (PV14.out.up hA105)).mono ?_
                  rintro e w9 ⟨rfl, hb9⟩
                  have c107 := c103.up hb9
                  have c108 := c104.up hb9
                  have hA109 := bel_up hA105 hb9
                  have hB110 : Below w.heap.size w w9 := bel_up hB106 hb9
                  clear c103 c104 hA105
                  have uc107 := c107; have uc108 := c108
                  simp only [At, Own, Nat.reduceAdd, and_true] at uc107 uc108
                  go_wp2
                  go_ret
                  refine ⟨rfl, ?_⟩
                  repeat (first | with_reducible exact hB110 | with_reducible refine bel_alloc ?_ _ | refine Below.setCell ?_ (by first | (simp; done) | (simp; omega) | omega) _)
                · skip
                  have HR := Lib.hid (show csepR X Y ap cm dr lw = 0 from by rw [csepR_eq, if_neg (by have := HLX.out; have := HLY.out; omega), if_pos HhT84.out])
                  have K111 := Lib.hid (fun W => known_any W)
                  have uc89 := c89; have uc90 := c90
                  simp only [At, Own, Nat.reduceAdd, and_true] at uc89 uc90
                  go_wp2_with (fail)
                  refine calls_named ?_
                  intro W10 hW10
                  have hL10 : Below w7.heap.size w7 W10 := by
                    rw [hW10]
                    repeat (first | with_reducible exact Below.refl _ _ | with_reducible refine bel_alloc ?_ _ | refine Below.setCell ?_ (by first | (simp; done) | (simp; omega) | omega) _)
                  have c112 := c89.up hL10
                  have c113 := c90.up hL10
                  have hA114 := bel_up hA91 hL10
                  have hB115 : Below w.heap.size w W10 := by
                    rw [hW10]
                    repeat (first | with_reducible exact hB92 | with_reducible refine bel_alloc ?_ _ | refine Below.setCell ?_ (by first | (simp; done) | (simp; omega) | omega) _)
                  clear hW10 hL10 uc89 uc90 c89 c90 hA91
                  with_reducible refine (K111.out _).mono ?_
                  rintro e w10 ⟨rfl, hb10⟩
                  have c116 := c112.up hb10
                  have c117 := c113.up hb10
                  have hA118 := bel_up hA114 hb10
                  have hB119 : Below w.heap.size w w10 := bel_up hB115 hb10
                  clear c112 c113 hA114
                  have uc116 := c116; have uc117 := c117
                  simp only [At, Own, Nat.reduceAdd, and_true] at uc116 uc117
                  have K120 := Lib.hid (fun W va vb (ha : PV W va X) (hb : PV W vb Y) => HR.out ▸ csep_any ap va vb X Y cm dr lw W ha hb HSX.out HSY.out HNX.out HNY.out (by decide : 1 ≤ 100000) hcm hdr hlw)
                  go_wp2_with (refine wpList_load_own (by rfl) _ _ rfl _ rfl _ _ c117 Tryz.underlying42 (by rfl) (by kernel_rfl) ?_)
                  refine calls_named ?_
                  intro W11 hW11
                  have hL11 : Below w10.heap.size w10 W11 := by
                    rw [hW11]
                    repeat (first | with_reducible exact Below.refl _ _ | with_reducible refine bel_alloc ?_ _ | refine Below.setCell ?_ (by first | (simp; done) | (simp; omega) | omega) _)
                  have c121 := c116.up hL11
                  have c122 := c117.up hL11
                  have hA123 := bel_up hA118 hL11
                  have hB124 : Below w.heap.size w W11 := by
                    rw [hW11]
                    repeat (first | with_reducible exact hB119 | with_reducible refine bel_alloc ?_ _ | refine Below.setCell ?_ (by first | (simp; done) | (simp; omega) | omega) _)
                  clear hW11 hL11 uc116 uc117 c116 c117 hA118
                  with_reducible refine (K120.out _ _ _ (PV12.out.up hA123) (PV14.out.up hA123)).mono ?_
                  rintro e w11 ⟨rfl, hb11⟩
                  have c125 := c121.up hb11
                  have c126 := c122.up hb11
                  have hA127 := bel_up hA123 hb11
                  have hB128 : Below w.heap.size w w11 := bel_up hB124 hb11
                  clear c121 c122 hA123
                  have uc125 := c125; have uc126 := c126
                  simp only [At, Own, Nat.reduceAdd, and_true] at uc125 uc126
                  go_wp2
                  go_ret
                  refine ⟨rfl, ?_⟩
                  repeat (first | with_reducible exact hB128 | with_reducible refine bel_alloc ?_ _ | refine Below.setCell ?_ (by first | (simp; done) | (simp; omega) | omega) _)
end Go.Proofs.YtdkkjfnpinckjaaGreatDoor
