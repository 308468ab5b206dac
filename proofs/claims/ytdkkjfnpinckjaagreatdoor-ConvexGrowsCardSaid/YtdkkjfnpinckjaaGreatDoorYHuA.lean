/-
 Contracts for convex sets: the hull of any points.
-/
import Derived.Test.YtdkkjfnpinckjaaGreatDoorYMp
import Derived.Test.YtdkkjfnpinckjaaGreatDoorYRst
set_option maxRecDepth 100000
set_option linter.unusedSimpArgs false
set_option linter.unusedVariables false
namespace Go.Proofs.YtdkkjfnpinckjaaGreatDoor
open Go Go.RowKit

set_option maxHeartbeats 2000000 in
theorem hull_any {S : Nat} (v : Value) (l : List (Rat × Rat)) (w : World) (h : PV w v l) (hs : ∀ q ∈ l, Pl.SzP S q) (hn : l.length ≤ 1000000) (hS : S ≤ 100000) :
 Calls Tryz.prog 66 #[v] w fun e w' => ∃ v', e = .returned v' ∧ PV w' v' (Pl.wrap l) ∧ Below w.heap.size w w' := by
 have KC := Lib.hid (fun W hW => clone_any v l W hW hn)
 have KS := Lib.hid (fun u B W hW => sort_any (S := S) u l.length B l W hW hs hn hS)
 have HV := Lib.hid h
 have HS0 : ∀ q ∈ dd (sortP l), Pl.SzP S q := fun q hq => hs q ((sortP_mem l q).1 ((dd_mem _ q).1 hq))
 have hls : (sortP l).length = l.length := sortP_length l
 have HW := Lib.hid (hullL_wrap l)
 obtain ⟨s0, hs0⟩ : ∃ s, s = sortP l := ⟨_, rfl⟩
 have HE0 := Lib.hid hs0
 rw [← hs0] at HS0 hls HW
 have KX := Lib.hid (fun u n B W hW hn => compact_any u s0 n B W hW hn)
 have hds : (dd s0).length ≤ l.length := by rw [← hls]; exact dd_len s0
 obtain ⟨s, hs1⟩ : ∃ s, s = dd s0 := ⟨_, rfl⟩
 rw [← hs1] at HS0 hds HW
 have HE1 := Lib.hid hs1
 have HS := Lib.hid HS0
 have hsn : s.length ≤ 1000000 := Nat.le_trans hds hn
 have KH := Lib.hid (fun u W hW => chain_any u s W hW HS.out hsn hS)
 have KR := Lib.hid (fun u B W hW => reverse_any (S := S) u s.length B s W hW HS.out hsn)
 have KH2 := Lib.hid (fun u W hW => chain_any u s.reverse W hW (fun q hq => HS.out q (List.mem_reverse.1 hq)) (by rw [List.length_reverse]; exact hsn) hS)
 have HC1 := Lib.hid (chain_len s)
 have HC2 := Lib.hid (chain_len s.reverse)
 have HD1 := Lib.hid (chain_le s)
 have HD2 := Lib.hid (chain_le s.reverse)
 have HH := Lib.hid (show s.length < 3 → Pl.hullL s = s from fun h => by unfold Pl.hullL; rw [if_pos h])
 have HH2 := Lib.hid (show ¬ s.length < 3 → Pl.hullL s = (Pl.chain s).dropLast ++ (Pl.chain s.reverse).dropLast from fun h => by unfold Pl.hullL; rw [if_neg h])
 generalize hM : s.length = M at *
 have HLS := Lib.hid hM
 generalize hN : l.length = N at *
 clear h hs hs0 hs1 hls hN hM HS0
 go_enter Tryz.func66, Tryz.ntmps66
 go_wp2_with fail
 with_reducible refine (KC.out _ HV.out).mono ?_
 rintro e w1 ⟨v1, rfl, ho1, hb1⟩
 have O1 := Lib.hid ho1
 clear ho1
 go_wp2_with fail
 with_reducible refine (KS.out _ _ _ O1.out).mono ?_
 rintro e w2 ⟨rfl, ho2, hst2⟩
 have hb2 : Below w.heap.size w w2 := hst2.below hb1 hb1.size (fun r hr => (O1.out.lt r hr).1)
 have O2 : Hid (w2.ownsRow w.heap.size 35 8 v1 N (pts s0)) := Lib.hid (by rw [HE0.out]; exact ho2)
 clear ho2 hst2
 go_wp2_with fail
 with_reducible refine (KX.out _ _ _ _ O2.out hn).mono ?_
 rintro e w3 ⟨v3, rfl, ho3, hb3⟩
 have O3 : Hid (w3.ownsRow w.heap.size 35 8 v3 M (pts s)) := Lib.hid (by rw [← HE1.out, HLS.out] at ho3; exact ho3)
 have hb3 := hb2.trans hb3
 clear ho3 O2 O1
 by_cases h3 : M < 3
 ·have i1 : (M : Int) < 3 := by omega
  obtain ⟨A, c, hv⟩ : ∃ A c, v3 = .slice A M c := (owns_open O3.out).2.imp fun A h => h.imp fun c h => h.1
  subst hv
  go_wp2
  go_ret
  exact ⟨_, rfl, by rw [← HW.out, HH.out h3]; exact pv_own O3.out, hb3⟩
 ·have i1 : ¬ (M : Int) < 3 := by omega
  obtain ⟨g, cap, hv, hnc, hcm, hg, hbg⟩ := owns_form O3.out (by omega)
  subst hv
  go_wp2_with fail
  with_reducible refine (KH.out _ _ (pv_own O3.out)).mono ?_
  rintro e w4 ⟨v4, n4, rfl, ho4, hb4⟩
  have O4 := Lib.hid ho4
  have O3b := Lib.hid (owns_up O3.out hb4)
  have hb4 := bel_up hb3 hb4
  clear ho4
  go_wp2_with fail
  with_reducible refine (KR.out _ _ _ O3b.out).mono ?_
  rintro e w5 ⟨rfl, ho5, hst5⟩
  have hb5 : Below w.heap.size w w5 := hst5.below hb4 hb4.size (fun r hr => (O3b.out.lt r hr).1)
  have O5 := Lib.hid ho5
  have O4b := Lib.hid (owns_step hst5 O4.out (fun r hr hg' => by have := (O4.out.lt r hr).1; simp only [Value.ownBlock, Option.some.injEq] at hg'; omega))
  clear ho5 hst5
  go_wp2_with fail
  with_reducible refine (KH2.out _ _ (pv_own O5.out)).mono ?_
  rintro e w6 ⟨v6, n6, rfl, ho6, hb6⟩
  have O6 := Lib.hid ho6
  have O4c := Lib.hid (owns_up O4b.out hb6)
  have hb6 := bel_up hb5 hb6
  clear ho6
  have hn4 : n4 = (Pl.chain s).length := (owns_open O4c.out).1
  have hn6 : n6 = (Pl.chain s.reverse).length := (owns_open O6.out).1
  have g4 : 2 ≤ n4 := by rw [hn4]; exact HC1.out (by omega)
  have g6 : 2 ≤ n6 := by rw [hn6]; exact HC2.out (by rw [List.length_reverse, HLS.out]; omega)
  have d4 : n4 ≤ 1000000 := by rw [hn4]; exact Nat.le_trans HD1.out hsn
  have d6 : n6 ≤ 1000000 := by rw [hn6]; exact Nat.le_trans HD2.out (by rw [List.length_reverse, HLS.out]; exact hsn)
  have HN4 := Lib.hid hn4
  have HN6 := Lib.hid hn6
  clear hn4 hn6
  obtain ⟨x4, c4, hv4, hc4, hm4, hg4, _⟩ := owns_form O4c.out (by omega)
  subst hv4
  obtain ⟨x6, c6, hv6, hc6, hm6, hg6, _⟩ := owns_form O6.out (by omega)
  subst hv6
  have P4 := Lib.hid (pv_cut O4c.out)
  have P6 := Lib.hid (pv_cut O6.out)
  obtain ⟨m4, hm4'⟩ : ∃ m, n4 = m + 1 := ⟨n4 - 1, by omega⟩
  subst hm4'
  obtain ⟨m6, hm6'⟩ : ∃ m, n6 = m + 1 := ⟨n6 - 1, by omega⟩
  subst hm6'
  clear O4 O3b O4b
  obtain ⟨r1, r2, r3, r4⟩ := cutS m4 (by omega)
  obtain ⟨r5, r6, r7, r8⟩ := cutS m6 (by omega)
  go_wp2_with fail
  refine wp_region_tail 10 (by kernel_rfl) (by kernel_rfl) ?_
  simp only [List.take_succ_cons, List.take_zero, List.drop_succ_cons, List.drop_zero]
  repeat (go_big_quiet_step (fail))
  refine wpQuiet_nil ?_
  intro w7 hb7
  have P4b := Lib.hid (P4.out.up hb7)
  have P6b := Lib.hid (P6.out.up hb7)
  have hb7 := bel_up hb6 hb7
  clear P4 P6
  go_wp2_with fail
  refine calls_named ?_
  intro W8 hW8
  have hL8 : Below w7.heap.size w7 W8 := by
   rw [hW8]
   repeat (first | with_reducible exact Below.refl _ _ | with_reducible refine bel_alloc ?_ _)
  have z0 : W8.cell? ⟨w7.heap.size, 0, none⟩ = some (.slice (some ⟨x4, 0, none⟩) m4 c4) := by rw [hW8]; simp [go_sem]
  have z1 : W8.cell? ⟨w7.heap.size, 1, none⟩ = some (.slice (some ⟨x6, 0, none⟩) m6 c6) := by rw [hW8]; simp [go_sem]
  clear hW8
  have q4 : (Pl.chain s).dropLast.length = m4 := by rw [List.length_dropLast, ← HN4.out]; rfl
  have q6 : (Pl.chain s.reverse).dropLast.length = m6 := by rw [List.length_dropLast, ← HN6.out]; rfl
  with_reducible refine (concat_any _ _ _ _ _ _ (P4b.out.up hL8) (P6b.out.up hL8) z0 z1 (by rw [q4]; omega) (by rw [q6]; omega) (by rw [q4, q6]; omega)).mono ?_
  rintro e w9 ⟨v9, rfl, hp9, hb9⟩
  have hb9 := bel_up (bel_up hb7 hL8) hb9
  have P9 := Lib.hid hp9
  clear hp9 z0 z1 hL8 q4 q6
  go_wp2
  go_ret
  exact ⟨_, rfl, by rw [← HW.out, HH2.out h3]; exact P9.out, hb9⟩
end Go.Proofs.YtdkkjfnpinckjaaGreatDoor
