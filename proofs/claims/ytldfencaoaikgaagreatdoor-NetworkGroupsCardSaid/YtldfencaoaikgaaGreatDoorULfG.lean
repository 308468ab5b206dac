/-
  The law Groups.
-/
import Derived.Test.YtldfencaoaikgaaGreatDoorULf2
import Derived.Test.YtldfencaoaikgaaGreatDoorUNgl
import Derived.Test.YtldfencaoaikgaaGreatDoorUReg7
set_option linter.unusedSimpArgs false
set_option linter.unusedVariables false
namespace Go.Proofs.YtldfencaoaikgaaGreatDoor
open Go Go.RowKit Nw

theorem lhas_is (l : List Int) (x : Int) (c : Bool) (v : Value) (w : World) (h : IL w v l) (hl : l.length ≤ 1024) (hc : decide (x ∈ l) = c) :
    Calls Tryz.prog 28 #[v, .int .i64 x] w fun e w' => e = .returned (.bool c) ∧ Below w.heap.size w w' := by
  have := lhas_any l x v w h hl
  rwa [hc] at this

set_option maxRecDepth 100000 in
set_option maxHeartbeats 4000000 in
theorem lgroups_any (sp : List St) (la : List La) (v : Value) (w : World) (h : GV w v sp la) (hu : GU sp la) :
    Calls Tryz.prog 6 #[v] w fun e w' => e = .returned (.bool true) ∧ Below w.heap.size w w' := by
  obtain ⟨_, _, rfl, ha, hb⟩ := h
  obtain ⟨As, cs, rfl, hcs, hms, hxs⟩ := ha.open_
  obtain ⟨Al, cl, rfl, hcl, hml, hxl⟩ := hb.open_
  have HGV : Hid (GV w (.agg #[.slice As sp.length cs, .slice Al la.length cl]) sp la) := Lib.hid ⟨_, _, rfl, ha, hb⟩
  have HU := Lib.hid hu
  clear ha hb hxs hxl hcs hms hcl hml hu
  go_enter Tryz.func6, Tryz.ntmps6
  go_wp2_with (fail)
  refine calls_named ?_
  intro W1 hW1
  have hL1 : Below w.heap.size w W1 := by
    rw [hW1]
    repeat (first | with_reducible exact Below.refl _ _ | with_reducible refine bel_alloc ?_ _ | refine Below.setCell ?_ (by first | (simp; done) | (simp; omega) | omega) _)
  have c1 : Own W1 (w.heap.size) 0 [.slice As sp.length cs, .slice Al la.length cl] := by
    rw [hW1]
    first
    | (repeat (first | (with_reducible refine own_new (l := [.slice As sp.length cs, .slice Al la.length cl]) ?_; (simp; done)) | with_reducible refine Own.alloc ?_ _ | refine Own.far _ _ (by first | (simp; done) | (simp [*]; done) | (simp; omega)) ?_)); done
    | simp [Own, go_sem]
  have hB2 : Below w.heap.size w W1 := by
    rw [hW1]
    repeat (first | with_reducible exact Below.refl _ _ | with_reducible refine bel_alloc ?_ _ | refine Below.setCell ?_ (by first | (simp; done) | (simp; omega) | omega) _)
  clear hW1 hL1
  with_reducible refine (net_any sp la _ _ (HGV.out.up hB2) HU.out).mono ?_
  rintro e w1 ⟨v1, N, rfl, hv1, hok, hb1⟩
  have c3 := c1.up hb1
  have hB4 : Below w.heap.size w w1 := bel_up hB2 hb1
  clear c1
  obtain ⟨va, vb, rfl, hn, hr⟩ := hv1
  obtain ⟨An, cn, rfl, hcn, hmn, hxn⟩ := hn.open_
  obtain ⟨Ar, cr, rfl, hcr, hmr, hxr⟩ := hr.open_
  have HNV1 : Hid (NV w1 (.agg #[.slice An N.ns.length cn, .slice Ar N.rs.length cr]) N) := Lib.hid ⟨_, _, rfl, hn, hr⟩
  generalize hNn : N.ns.length = Nn at *
  generalize hNr : N.rs.length = Nr at *
  clear hn hr hxn hxr
  have an5 : w1.heap.size ≤ w1.heap.size := by omega
  have ne6_ : w.heap.size < w1.heap.size := by have := c3.lt; omega
  have ne6 := Nat.ne_of_lt ne6_
  have ne6' := ne6.symm
  go_upto_region 2 with fail
  refine wp_named ?_
  intro W2 hW2
  have hL2 : Below w1.heap.size w1 W2 := by
    rw [hW2]
    repeat (first | with_reducible exact Below.refl _ _ | with_reducible refine bel_alloc ?_ _ | refine Below.setCell ?_ (by first | (simp; done) | (simp; omega) | omega) _)
  have c7 := c3.up hL2
  have c8 : Own W2 (w1.heap.size) 0 [((.slice An Nn cn)), ((.slice Ar Nr cr))] := by
    rw [hW2]
    first
    | (repeat (first | (with_reducible refine own_new (l := [((.slice An Nn cn)), ((.slice Ar Nr cr))]) ?_; (simp; done)) | with_reducible refine Own.alloc ?_ _ | refine Own.far _ _ (by first | (simp; done) | (simp [*]; done) | (simp; omega)) ?_)); done
    | simp [Own, go_sem, ne6, ne6', ne6_]
  have hA9 := hL2
  have hB10 : Below w.heap.size w W2 := by
    rw [hW2]
    repeat (first | with_reducible exact hB4 | with_reducible refine bel_alloc ?_ _ | refine Below.setCell ?_ (by first | (simp; done) | (simp; omega) | omega) _)
  clear hW2 hL2 c3
  have HNV2 : Hid (NV W2 (.agg #[.slice An Nn cn, .slice Ar Nr cr]) N) := Lib.hid (HNV1.out.up hA9)
  clear HNV1 hA9
  obtain ⟨w0, hw0⟩ : ∃ W_, W_ = w := ⟨_, rfl⟩
  subst hw0
  obtain ⟨w, hw⟩ : ∃ W_, W_ = W2 := ⟨_, rfl⟩
  subst hw
  have hBw := hB10
  clear hB10
  clear c7
  have HNV := HNV2
  have HG := Lib.hid hok.g
  have HOK := Lib.hid hok
  have hln := hok.g.ln
  have hlr := hok.g.lr
  have hn2 := hok.n2
  have hn8 := hok.n8
  have hr1 := hok.r1
  have hr13 := hok.r13
  rw [hNn] at hln hn2 hn8
  rw [hNr] at hlr hr1 hr13
  have HXN : Hid (LX CN 3 w An N.ns) := Lib.hid (nv_ns HNV.out)
  have HXR : Hid (LX CR 6 w Ar N.rs) := Lib.hid (nv_rs HNV.out)
  have HNn := Lib.hid hNn
  have HNr := Lib.hid hNr
  clear hok hNn hNr HNV2
  have uc8 := c8
  simp only [At, Own, Nat.reduceAdd, and_true] at uc8
  go_wp2_with (fail)
  refine calls_named ?_
  intro W3 hW3
  have hL3 : Below w.heap.size w W3 := by
    rw [hW3]
    repeat (first | with_reducible exact Below.refl _ _ | with_reducible refine bel_alloc ?_ _ | refine Below.setCell ?_ (by first | (simp; done) | (simp; omega) | omega) _)
  have c11 := c8.up hL3
  have hB12 : Below w.heap.size w W3 := by
    rw [hW3]
    repeat (first | with_reducible exact Below.refl _ _ | with_reducible refine bel_alloc ?_ _ | refine Below.setCell ?_ (by first | (simp; done) | (simp; omega) | omega) _)
  clear hW3 hL3 uc8 c8
  with_reducible refine (groups_any N _ _ (HNV.out.up hB12) HG.out).mono ?_
  rintro e w3 ⟨vg, rfl, hvg, hb3⟩
  have c13 := c11.up hb3
  have hB14 : Below w.heap.size w w3 := bel_up hB12 hb3
  clear c11
  obtain ⟨Ag, cg, LL, rfl, hLL, hxl, hin⟩ := hvg.open_
  have HXL := Lib.hid hxl
  have HIN := Lib.hid hin
  generalize hNg : (groupsE N).length = Ng at *
  have HNg := Lib.hid hNg
  have HNL := Lib.hid hLL
  have hng : Ng ≤ 256 := by
    have h_ : (groupsE N).length ≤ (ids N).length := by unfold groupsE reps; rw [List.length_map]; exact List.length_filter_le _ _
    rw [hNg] at h_
    have h2_ : (ids N).length = Nn := by unfold ids; rw [List.length_map]; exact HNn.out
    omega
  clear hxl hin hNg hLL hvg
  have K15 := Lib.hid (fun W => known_any W)
  have uc13 := c13
  simp only [At, Own, Nat.reduceAdd, and_true] at uc13
  go_wp2_with (fail)
  refine calls_named ?_
  intro W4 hW4
  have hL4 : Below w3.heap.size w3 W4 := by
    rw [hW4]
    repeat (first | with_reducible exact Below.refl _ _ | with_reducible refine bel_alloc ?_ _ | refine Below.setCell ?_ (by first | (simp; done) | (simp; omega) | omega) _)
  have c16 := c13.up hL4
  have hA17 := hL4
  have hB18 : Below w.heap.size w W4 := by
    rw [hW4]
    repeat (first | with_reducible exact hB14 | with_reducible refine bel_alloc ?_ _ | refine Below.setCell ?_ (by first | (simp; done) | (simp; omega) | omega) _)
  clear hW4 hL4 uc13 c13
  with_reducible refine (K15.out _).mono ?_
  rintro e w4 ⟨rfl, hb4⟩
  have c19 := c16.up hb4
  have hA20 := bel_up hA17 hb4
  have hB21 : Below w.heap.size w w4 := bel_up hB18 hb4
  clear c16 hA17
  have uc19 := c19
  simp only [At, Own, Nat.reduceAdd, and_true] at uc19
  go_upto_region 5 with fail
  refine wp_named ?_
  intro W5 hW5
  have hL5 : Below w4.heap.size w4 W5 := by
    rw [hW5]
    repeat (first | with_reducible exact Below.refl _ _ | with_reducible refine bel_alloc ?_ _ | refine Below.setCell ?_ (by first | (simp; done) | (simp; omega) | omega) _)
  have c22 := c19.up hL5
  have hA23 := bel_up hA20 hL5
  have hB24 : Below w.heap.size w W5 := by
    rw [hW5]
    repeat (first | with_reducible exact hB21 | with_reducible refine bel_alloc ?_ _ | refine Below.setCell ?_ (by first | (simp; done) | (simp; omega) | omega) _)
  clear hW5 hL5 uc19 c19 hA20
  have uc22 := c22
  simp only [At, Own, Nat.reduceAdd, and_true] at uc22
  have hmm := @run_makeMap Tryz.prog
  go_upto_region 6 with fail
  refine wp_named ?_
  intro WM hWM
  clear hmm
  have hbO := hA23.size
  have hbM : Below W5.heap.size W5 WM := by rw [hWM]; exact (Below.refl _ _).alloc (Nat.le_refl _) _
  have OS0 : Hid (MapI WM w.heap.size W5.heap.size 0 (fun _ => (0 : Int))) := Lib.hid (by rw [hWM]; exact mi_made W5 (hB24).size)
  clear hWM
  have f25 : Value.ownBlock (mblk W5.heap.size) ≠ some (w1.heap.size) := fun e_ => by have := mblk_block.1 e_; have := c22.lt; omega
  have c26 := c22.up hbM
  have hA27 := bel_up hA23 hbM
  have hB28 : Below w.heap.size w WM := bel_up hB24 hbM
  clear uc22 c22 hA23
  go_wp2_with fail
  go_loopw [6, 7, 8] (fun s6 s7 s8 wr => ∃ (i : Nat) (la : Int) (T : Nat) (F : Int → Int), s6 = .int .i64 la ∧ s7 = .int .i64 T ∧ s8 = .int .i64 i ∧ Own wr (w1.heap.size) 0 [.slice An Nn cn, .slice Ar Nr cr] ∧ MapI wr w.heap.size W5.heap.size T F ∧ Below w3.heap.size w3 wr ∧ Below w.heap.size w wr ∧ i ≤ Ng ∧ Hid (T = tot N i) ∧ Hid (GF N i 0 F) ∧ Hid (∀ a t, (groupsE N)[i]? = some (a :: t) → la < a)) (fun _ _ s8 _ => Ng - (intOf s8).toNat)
  case atStart => exact ⟨0, 0, 0, (fun _ => (0 : Int)), rfl, rfl, rfl, c26, OS0.out, hA27, hB28, (by omega), Lib.hid (by simp [tot]), Lib.hid (GF.zero N _), Lib.hid (fun a_ t_ h_ => by have := id_bd HG.out (gs_mem h_ (List.mem_cons_self)); omega)⟩
  case round =>
    clear c26 hB28 OS0 hA27
    obtain ⟨i, la, T, F, rfl, rfl, rfl, b29, o30, hA31, hB32, hi, HT, HGF, HLA⟩ := hrel
    obtain ⟨wr33, hwr33⟩ : ∃ W_, W_ = wr := ⟨_, rfl⟩
    subst hwr33
    have O34 := Lib.hid o30
    clear o30
    by_cases hlti : i < Ng
    · skip
      have i1i : (i : Int) < Ng := by omega
      obtain ⟨u, hu⟩ : ∃ x, LL[i]? = some x := ⟨_, List.getElem?_eq_getElem (by rw [HNL.out]; omega)⟩
      obtain ⟨l, hl⟩ : ∃ x, (groupsE N)[i]? = some x := ⟨_, List.getElem?_eq_getElem (by rw [HNg.out]; omega)⟩
      obtain ⟨a, t, hat, -⟩ := gs_head HG.out hl
      have hil := HIN.out i u l hu hl
      obtain ⟨Ai, ci, rfl, hci, hmi, hxi⟩ := hil.open_
      have hl0 : l[0]? = some a := by rw [hat]; rfl
      obtain ⟨gi, oi, rfl, -⟩ := hxi 0 a hl0
      have hpos : 0 < l.length := by rw [hat]; simp
      have hla := HLA.out a t (by rw [hl, hat])
      have htn := tot_next hl
      have htl := tot_le HG.out (i + 1)
      rw [htn, ← HT.out, HNn.out] at htl
      generalize hNi : l.length = Ni at *
      have hTN : T + Ni ≤ 256 := by omega
      have HU := Lib.hid hu
      have HL := Lib.hid hl
      have HL0 := Lib.hid hl0
      have HHD : Hid ((groupsE N)[i]? = some (a :: t)) := Lib.hid (by rw [hl, hat])
      have HNi := Lib.hid hNi
      have HXi := Lib.hid hxi
      have hni1 : ¬ (Ni : Int) = 0 := by omega
      have hni0 : (((Ni : Int)) == 0) = false := by simpa using hni1
      have i1z : (0 : Int) < Ni := by omega
      have hla_ : ¬ ((a : Int) ≤ la) := by omega
      clear hu hl hat hil hl0 hxi hNi htn htl
      obtain ⟨g36, o37, ha38, -⟩ := (LX.up HXL.out kpV hA31) _ _ HU.out
      subst ha38
      have ce35 := LX.at_ ((LX.up HXL.out kpV hA31)) HU.out
      have ce35_ : g36 < wr33.heap.size := World.block_lt_of_cell? _ _ ce35.1
      have uce35 := ce35
      simp only [CVL, vlc, At, Nat.mul_one, Nat.reduceMul] at uce35
      have ce39 := LX.at_ ((LX.up HXi.out kpI hA31)) HL0.out
      have ce39_ : gi < wr33.heap.size := World.block_lt_of_cell? _ _ ce39.1
      have uce39 := ce39
      simp only [CI, itc, At, Nat.mul_one, Nat.reduceMul, Nat.zero_mul, Nat.add_zero, Nat.add_assoc, Nat.reduceAdd] at uce39
      go_wp2_with fail
      go_loopw [7, 9] (fun s7 s9 wr => ∃ (j : Nat) (T2 : Nat) (F2 : Int → Int), s7 = .int .i64 T2 ∧ s9 = .int .i64 j ∧ Own wr (w1.heap.size) 0 [.slice An Nn cn, .slice Ar Nr cr] ∧ MapI wr w.heap.size W5.heap.size T2 F2 ∧ Below w3.heap.size w3 wr ∧ Below w.heap.size w wr ∧ j ≤ Ni ∧ T2 ≤ T + j ∧ Hid (T2 = T + j) ∧ Hid (GF N i j F2)) (fun _ s9 _ => Ni - (intOf s9).toNat)
      case atStart => exact ⟨0, T, F, rfl, rfl, b29, O34.out, hA31, hB32, (by omega), (by omega), Lib.hid rfl, HGF⟩
      case round =>
        clear b29 hB32 uce35 uce39 O34 hA31
        obtain ⟨j, T2, F2, rfl, rfl, b40, o41, hA42, hB43, hj, hT2, HT2, HGF2⟩ := hrel
        obtain ⟨wr44, hwr44⟩ : ∃ W_, W_ = wr := ⟨_, rfl⟩
        subst hwr44
        have O45 := Lib.hid o41
        clear o41
        by_cases hltj : j < Ni
        · skip
          have i1j : (j : Int) < Ni := by omega
          obtain ⟨y, hy⟩ : ∃ x, l[j]? = some x := ⟨_, List.getElem?_eq_getElem (by rw [HNi.out]; omega)⟩
          have hyi := gs_mem HL.out (List.mem_of_getElem? hy)
          have hyb := id_bd HG.out hyi
          obtain ⟨jn, hjn⟩ : ∃ z : Nat, idxN N.ns y = z := by
            cases hf : fnd N.ns y with
            | none =>
              obtain ⟨q, hq, e_⟩ := List.mem_map.1 hyi
              have := List.find?_eq_none.1 hf q hq
              simp at this; omega
            | some q => obtain ⟨z, hz, -⟩ := fnd_idx hf; exact ⟨z, hz⟩
          have HY := Lib.hid hy
          have HJN := Lib.hid hjn
          have hjn1 : ¬ (jn : Int) < 0 := by omega
          have hjn2 : decide ((jn : Int) < 0) = false := decide_eq_false hjn1
          have hjn3 : (0 : Int) ≤ jn := by omega
          clear hy hyi hjn
          rcases Nat.eq_zero_or_pos j with hz0 | hz0
          · skip
            have hkp : ¬ (0 : Int) < j := by omega
            have hkp2 : decide ((0 : Int) < j) = false := decide_eq_false hkp
            have hkp3 : decide (0 < j) = false := decide_eq_false (by omega)
            have hkp_ : (j : Int) ≤ 0 := by omega
            clear hz0
            have ce46 := LX.at_ ((LX.up HXL.out kpV hA42)) HU.out
            have ce46_ : g36 < wr44.heap.size := World.block_lt_of_cell? _ _ ce46.1
            have uce46 := ce46
            simp only [CVL, vlc, At, Nat.mul_one, Nat.reduceMul] at uce46
            have K47 := Lib.hid (fun W (hv : NV W (.agg #[.slice An Nn cn, .slice Ar Nr cr]) N) => lnode_j N y jn _ W hv ⟨by rw [HNn.out]; exact hln, by rw [HNr.out]; exact hlr⟩ HJN.out)
            go_wp2_with fail
            refine wp_named ?_
            intro W6 hW6
            have hL6 : Below wr44.heap.size wr44 W6 := by
              rw [hW6]
              repeat (first | with_reducible exact Below.refl _ _ | with_reducible refine bel_alloc ?_ _ | refine Below.setCell ?_ (by first | (simp; done) | (simp; omega) | omega) _)
            have c48 := b40.up hL6
            have O49 := Lib.hid (MapI.up O45.out hL6)
            have hA50 := bel_up hA42 hL6
            have hB51 : Below w.heap.size w W6 := by
              rw [hW6]
              repeat (first | with_reducible exact hB43 | with_reducible refine bel_alloc ?_ _ | refine Below.setCell ?_ (by first | (simp; done) | (simp; omega) | omega) _)
            clear hW6 hL6 uce46 b40 hA42
            have dc48 := fun p : Bel W6 => c48.bel p
            simp only [At, Own, Nat.reduceAdd, and_true] at dc48
            have ce52 := LX.at_ ((LX.up HXL.out kpV hA50)) HU.out
            have ce52_ : g36 < W6.heap.size := World.block_lt_of_cell? _ _ ce52.1
            have dce52 := fun b : Bel W6 => ce52.bel b
            simp only [CVL, vlc, At, Nat.mul_one, Nat.reduceMul] at dce52
            have ce53 := LX.at_ ((LX.up HXi.out kpI hA50)) HY.out
            have ce53_ : gi < W6.heap.size := World.block_lt_of_cell? _ _ ce53.1
            have dce53 := fun b : Bel W6 => ce53.bel b
            simp only [CI, itc, At, Nat.mul_one, Nat.reduceMul] at dce53
            refine wp_region_all (by kernel_rfl) (by kernel_rfl) ?_
            repeat (go_big_quiet_step (first | (go_at_call 27; with_reducible exact Calls.bel (K47.out _ (HNV.out.up (bel_up hB51 (Bel.h _)))))))
            refine wpQuiet_nil ?_
            intro w6 hb6
            have c54 := c48.up hb6
            have O55 := Lib.hid (MapI.up O49.out hb6)
            have hA56 := bel_up hA50 hb6
            have hB57 : Below w.heap.size w w6 := bel_up hB51 hb6
            clear dc48 dce52 dce53 c48 O49 hA50
            have uc54 := c54
            simp only [At, Own, Nat.reduceAdd, and_true] at uc54
            have ce59 := LX.at_ ((LX.up HXL.out kpV hA56)) HU.out
            have ce59_ : g36 < w6.heap.size := World.block_lt_of_cell? _ _ ce59.1
            have uce59 := ce59
            simp only [CVL, vlc, At, Nat.mul_one, Nat.reduceMul] at uce59
            have ce60 := LX.at_ ((LX.up HXi.out kpI hA56)) HY.out
            have ce60_ : gi < w6.heap.size := World.block_lt_of_cell? _ _ ce60.1
            have uce60 := ce60
            simp only [CI, itc, At, Nat.mul_one, Nat.reduceMul] at uce60
            go_upto_region 17 with fail
            refine wp_named ?_
            intro W7 hW7
            have hL7 : Below w6.heap.size w6 W7 := by
              rw [hW7]
              repeat (first | with_reducible exact Below.refl _ _ | with_reducible refine bel_alloc ?_ _ | refine Below.setCell ?_ (by first | (simp; done) | (simp; omega) | omega) _)
            have c61 := c54.up hL7
            have O62 := Lib.hid (MapI.up O55.out hL7)
            have hA63 := bel_up hA56 hL7
            have hB64 : Below w.heap.size w W7 := by
              rw [hW7]
              repeat (first | with_reducible exact hB57 | with_reducible refine bel_alloc ?_ _ | refine Below.setCell ?_ (by first | (simp; done) | (simp; omega) | omega) _)
            clear hW7 hL7 uc54 uce59 uce60 c54 hA56
            have ce65 := LX.at_ ((LX.up HXL.out kpV hA63)) HU.out
            have ce65_ : g36 < W7.heap.size := World.block_lt_of_cell? _ _ ce65.1
            have uce65 := ce65
            simp only [CVL, vlc, At, Nat.mul_one, Nat.reduceMul] at uce65
            have ce66 := LX.at_ ((LX.up HXi.out kpI hA63)) HY.out
            have ce66_ : gi < W7.heap.size := World.block_lt_of_cell? _ _ ce66.1
            have uce66 := ce66
            simp only [CI, itc, At, Nat.mul_one, Nat.reduceMul] at uce66
            have uc61 := c61
            simp only [At, Own, Nat.reduceAdd, and_true] at uc61
            have hml : T2 < maxLen := by simp [maxLen]; omega
            have hwy := wf_k (k := y) (by omega)
            have hwi := wf_k (k := (i : Int) + 1) (by omega)
            go_wp2_with (refine wpList_entry_i rfl _ _ rfl y O62.out hml hwy rfl rfl ?_)
            intro v058 st58 we58 hE58
            go_wp2_with (refine wpList_store_i rfl _ _ _ rfl ((i : Int) + 1) hE58 hwi rfl rfl (by first | rfl | simp [*]) ?_)
            intro wm58 hm_58 hst58
            clear hE58 hml hwy hwi
            have O67 : Hid (MapI wm58 w.heap.size W5.heap.size (T2 + 1) (upd F2 y (i + 1))) := Lib.hid hm_58
            clear hm_58
            have c68 := Own.step hst58 f25 c61
            have hA69 : Below w3.heap.size w3 wm58 := hst58.below hA63 hA63.size (fun r hr => by have := mblk_block.1 hr; omega)
            have hB70 : Below w.heap.size w wm58 := hst58.below hB64 (hB64).size (fun r hr => (O62.out.lt r hr).1)
            clear uce65 uce66 uc61 c61 hA63 O62 hB64
            have uc68 := c68
            simp only [At, Own, Nat.reduceAdd, and_true] at uc68
            go_wp2
            go_roundw
            case rel => exact ⟨(j + 1), (T2 + 1), (upd F2 y (i + 1)), (by first | rfl | exact congrArg (Value.int .i64) (by omega) | simp [*]), (by first | rfl | exact congrArg (Value.int .i64) (by omega) | simp [*]), (by repeat (first | with_reducible exact c68 | refine Own.far _ _ (by simp <;> omega) ?_ | with_reducible refine Own.alloc ?_ _)), (by repeat (first | with_reducible exact O67.out | refine MapI.far ?_ _ (by first | exact f25) _ | with_reducible refine MapI.alloc ?_ _)), (by repeat (first | with_reducible exact hA69 | with_reducible refine bel_alloc ?_ _ | refine Below.setCell ?_ (by first | (simp; done) | (simp; omega) | omega) _)), (by repeat (first | with_reducible exact hB70 | with_reducible refine bel_alloc ?_ _ | refine Below.setCell ?_ (by first | (simp; done) | (simp; omega) | omega) _)), (by omega), (by omega), Lib.hid (by have h_ := HT2.out; omega), Lib.hid (HGF2.out.put HG.out HL.out HY.out)⟩
            case measure => simp [intOf] <;> omega
          · skip
            obtain ⟨m, hm⟩ : ∃ m, j = m + 1 := ⟨j - 1, by omega⟩
            have hkp : (0 : Int) < j := by omega
            have hkp2 : decide ((0 : Int) < j) = true := decide_eq_true hkp
            have hkp3 : decide (0 < j) = true := decide_eq_true (by omega)
            have hkp_ : ¬ (j : Int) ≤ 0 := by omega
            have hmk : (j : Int) - 1 = m := by omega
            have i1m : (m : Int) < Ni := by omega
            have i0m : (0 : Int) ≤ m := Int.natCast_nonneg _
            obtain ⟨z, hz⟩ : ∃ x, l[m]? = some x := ⟨_, List.getElem?_eq_getElem (by rw [HNi.out]; omega)⟩
            have hzy := gs_sorted HG.out HL.out hz (by rw [← hm]; exact HY.out)
            have hzy_ : ¬ ((y : Int) ≤ z) := by omega
            have hzy2 : decide ((y : Int) ≤ z) = false := decide_eq_false hzy_
            have HZ := Lib.hid hz
            clear hm hz hz0
            obtain ⟨wm1, wm2⟩ := i64_small (a := (m : Int)) (by omega) (by omega)
            have ce71 := LX.at_ ((LX.up HXL.out kpV hA42)) HU.out
            have ce71_ : g36 < wr44.heap.size := World.block_lt_of_cell? _ _ ce71.1
            have uce71 := ce71
            simp only [CVL, vlc, At, Nat.mul_one, Nat.reduceMul] at uce71
            have K72 := Lib.hid (fun W (hv : NV W (.agg #[.slice An Nn cn, .slice Ar Nr cr]) N) => lnode_j N y jn _ W hv ⟨by rw [HNn.out]; exact hln, by rw [HNr.out]; exact hlr⟩ HJN.out)
            go_wp2_with fail
            refine wp_named ?_
            intro W8 hW8
            have hL8 : Below wr44.heap.size wr44 W8 := by
              rw [hW8]
              repeat (first | with_reducible exact Below.refl _ _ | with_reducible refine bel_alloc ?_ _ | refine Below.setCell ?_ (by first | (simp; done) | (simp; omega) | omega) _)
            have c73 := b40.up hL8
            have O74 := Lib.hid (MapI.up O45.out hL8)
            have hA75 := bel_up hA42 hL8
            have hB76 : Below w.heap.size w W8 := by
              rw [hW8]
              repeat (first | with_reducible exact hB43 | with_reducible refine bel_alloc ?_ _ | refine Below.setCell ?_ (by first | (simp; done) | (simp; omega) | omega) _)
            clear hW8 hL8 uce71 b40 hA42
            have dc73 := fun p : Bel W8 => c73.bel p
            simp only [At, Own, Nat.reduceAdd, and_true] at dc73
            have ce77 := LX.at_ ((LX.up HXL.out kpV hA75)) HU.out
            have ce77_ : g36 < W8.heap.size := World.block_lt_of_cell? _ _ ce77.1
            have dce77 := fun b : Bel W8 => ce77.bel b
            simp only [CVL, vlc, At, Nat.mul_one, Nat.reduceMul] at dce77
            have ce78 := LX.at_ ((LX.up HXi.out kpI hA75)) HY.out
            have ce78_ : gi < W8.heap.size := World.block_lt_of_cell? _ _ ce78.1
            have dce78 := fun b : Bel W8 => ce78.bel b
            simp only [CI, itc, At, Nat.mul_one, Nat.reduceMul] at dce78
            have ce79 := LX.at_ ((LX.up HXi.out kpI hA75)) HZ.out
            have ce79_ : gi < W8.heap.size := World.block_lt_of_cell? _ _ ce79.1
            have dce79 := fun b : Bel W8 => ce79.bel b
            simp only [CI, itc, At, Nat.mul_one, Nat.reduceMul] at dce79
            refine wp_region_all (by kernel_rfl) (by kernel_rfl) ?_
            repeat (go_big_quiet_step (first | (go_at_call 27; with_reducible exact Calls.bel (K72.out _ (HNV.out.up (bel_up hB76 (Bel.h _)))))))
            refine wpQuiet_nil ?_
            intro w8 hb8
            have c80 := c73.up hb8
            have O81 := Lib.hid (MapI.up O74.out hb8)
            have hA82 := bel_up hA75 hb8
            have hB83 : Below w.heap.size w w8 := bel_up hB76 hb8
            clear dc73 dce77 dce78 dce79 c73 O74 hA75
            have uc80 := c80
            simp only [At, Own, Nat.reduceAdd, and_true] at uc80
            clear wm1 wm2
            have ce85 := LX.at_ ((LX.up HXL.out kpV hA82)) HU.out
            have ce85_ : g36 < w8.heap.size := World.block_lt_of_cell? _ _ ce85.1
            have uce85 := ce85
            simp only [CVL, vlc, At, Nat.mul_one, Nat.reduceMul] at uce85
            have ce86 := LX.at_ ((LX.up HXi.out kpI hA82)) HY.out
            have ce86_ : gi < w8.heap.size := World.block_lt_of_cell? _ _ ce86.1
            have uce86 := ce86
            simp only [CI, itc, At, Nat.mul_one, Nat.reduceMul] at uce86
            go_upto_region 17 with fail
            refine wp_named ?_
            intro W9 hW9
            have hL9 : Below w8.heap.size w8 W9 := by
              rw [hW9]
              repeat (first | with_reducible exact Below.refl _ _ | with_reducible refine bel_alloc ?_ _ | refine Below.setCell ?_ (by first | (simp; done) | (simp; omega) | omega) _)
            have c87 := c80.up hL9
            have O88 := Lib.hid (MapI.up O81.out hL9)
            have hA89 := bel_up hA82 hL9
            have hB90 : Below w.heap.size w W9 := by
              rw [hW9]
              repeat (first | with_reducible exact hB83 | with_reducible refine bel_alloc ?_ _ | refine Below.setCell ?_ (by first | (simp; done) | (simp; omega) | omega) _)
            clear hW9 hL9 uc80 uce85 uce86 c80 hA82
            have ce91 := LX.at_ ((LX.up HXL.out kpV hA89)) HU.out
            have ce91_ : g36 < W9.heap.size := World.block_lt_of_cell? _ _ ce91.1
            have uce91 := ce91
            simp only [CVL, vlc, At, Nat.mul_one, Nat.reduceMul] at uce91
            have ce92 := LX.at_ ((LX.up HXi.out kpI hA89)) HY.out
            have ce92_ : gi < W9.heap.size := World.block_lt_of_cell? _ _ ce92.1
            have uce92 := ce92
            simp only [CI, itc, At, Nat.mul_one, Nat.reduceMul] at uce92
            have uc87 := c87
            simp only [At, Own, Nat.reduceAdd, and_true] at uc87
            have hml : T2 < maxLen := by simp [maxLen]; omega
            have hwy := wf_k (k := y) (by omega)
            have hwi := wf_k (k := (i : Int) + 1) (by omega)
            go_wp2_with (refine wpList_entry_i rfl _ _ rfl y O88.out hml hwy rfl rfl ?_)
            intro v084 st84 we84 hE84
            go_wp2_with (refine wpList_store_i rfl _ _ _ rfl ((i : Int) + 1) hE84 hwi rfl rfl (by first | rfl | simp [*]) ?_)
            intro wm84 hm_84 hst84
            clear hE84 hml hwy hwi
            have O93 : Hid (MapI wm84 w.heap.size W5.heap.size (T2 + 1) (upd F2 y (i + 1))) := Lib.hid hm_84
            clear hm_84
            have c94 := Own.step hst84 f25 c87
            have hA95 : Below w3.heap.size w3 wm84 := hst84.below hA89 hA89.size (fun r hr => by have := mblk_block.1 hr; omega)
            have hB96 : Below w.heap.size w wm84 := hst84.below hB90 (hB90).size (fun r hr => (O88.out.lt r hr).1)
            clear uce91 uce92 uc87 c87 hA89 O88 hB90
            have uc94 := c94
            simp only [At, Own, Nat.reduceAdd, and_true] at uc94
            go_wp2
            go_roundw
            case rel => exact ⟨(j + 1), (T2 + 1), (upd F2 y (i + 1)), (by first | rfl | exact congrArg (Value.int .i64) (by omega) | simp [*]), (by first | rfl | exact congrArg (Value.int .i64) (by omega) | simp [*]), (by repeat (first | with_reducible exact c94 | refine Own.far _ _ (by simp <;> omega) ?_ | with_reducible refine Own.alloc ?_ _)), (by repeat (first | with_reducible exact O93.out | refine MapI.far ?_ _ (by first | exact f25) _ | with_reducible refine MapI.alloc ?_ _)), (by repeat (first | with_reducible exact hA95 | with_reducible refine bel_alloc ?_ _ | refine Below.setCell ?_ (by first | (simp; done) | (simp; omega) | omega) _)), (by repeat (first | with_reducible exact hB96 | with_reducible refine bel_alloc ?_ _ | refine Below.setCell ?_ (by first | (simp; done) | (simp; omega) | omega) _)), (by omega), (by omega), Lib.hid (by have h_ := HT2.out; omega), Lib.hid (HGF2.out.put HG.out HL.out HY.out)⟩
            case measure => simp [intOf] <;> omega
        · skip
          have i1j : ¬ (j : Int) < Ni := by omega
          have ce97 := LX.at_ ((LX.up HXL.out kpV hA42)) HU.out
          have ce97_ : g36 < wr44.heap.size := World.block_lt_of_cell? _ _ ce97.1
          have uce97 := ce97
          simp only [CVL, vlc, At, Nat.mul_one, Nat.reduceMul] at uce97
          have ub40 := b40
          simp only [At, Own, Nat.reduceAdd, and_true] at ub40
          go_wp2
          go_roundw
          case rel => exact ⟨(i + 1), a, T2, F2, (by first | rfl | exact congrArg (Value.int .i64) (by omega) | simp [*]), (by first | rfl | exact congrArg (Value.int .i64) (by omega) | simp [*]), (by first | rfl | exact congrArg (Value.int .i64) (by omega) | simp [*]), (by repeat (first | with_reducible exact b40 | refine Own.far _ _ (by simp <;> omega) ?_ | with_reducible refine Own.alloc ?_ _)), (by repeat (first | with_reducible exact O45.out | refine MapI.far ?_ _ (by first | exact f25) _ | with_reducible refine MapI.alloc ?_ _)), (by repeat (first | with_reducible exact hA42 | with_reducible refine bel_alloc ?_ _ | refine Below.setCell ?_ (by first | (simp; done) | (simp; omega) | omega) _)), (by repeat (first | with_reducible exact hB43 | with_reducible refine bel_alloc ?_ _ | refine Below.setCell ?_ (by first | (simp; done) | (simp; omega) | omega) _)), (by omega), Lib.hid (by have h1_ := HT2.out; have h2_ := HT.out; have h3_ := tot_next HL.out; have h4_ := HNi.out; omega), Lib.hid (HGF2.out.next HL.out (by rw [HNi.out]; omega)), Lib.hid (fun b_ u_ h_ => gs_first HG.out HHD.out h_)⟩
          case measure => simp [intOf] <;> omega
    · skip
      have i1i : ¬ (i : Int) < Ng := by omega
      have hTe : T = Nn := by rw [HT.out, tot_all HG.out (by rw [HNg.out]; omega), HNn.out]
      have hTe_ : (((T : Int)) == Nn) = true := by simp [hTe]
      have HTE := Lib.hid hTe
      clear hTe
      have ub29 := b29
      simp only [At, Own, Nat.reduceAdd, and_true] at ub29
      go_wp2_with fail
      go_loopw [10] (fun s10 wr => ∃ (p : Nat), s10 = .int .i64 p ∧ Own wr (w1.heap.size) 0 [.slice An Nn cn, .slice Ar Nr cr] ∧ MapI wr w.heap.size W5.heap.size T F ∧ Below w3.heap.size w3 wr ∧ Below w.heap.size w wr ∧ p ≤ Nn) (fun s10 _ => Nn - (intOf s10).toNat)
      case atStart => exact ⟨0, rfl, b29, O34.out, hA31, hB32, (by omega)⟩
      case round =>
        clear b29 hB32 ub29 O34 hA31
        obtain ⟨p, rfl, b98, o99, hA100, hB101, hp⟩ := hrel
        obtain ⟨wr102, hwr102⟩ : ∃ W_, W_ = wr := ⟨_, rfl⟩
        subst hwr102
        have O103 := Lib.hid o99
        clear o99
        by_cases hltp : p < Nn
        · skip
          have i1p : (p : Int) < Nn := by omega
          obtain ⟨x104, hx105⟩ : ∃ x, N.ns[p]? = some x := ⟨_, List.getElem?_eq_getElem (by rw [HNn.out]; omega)⟩
          have Hhx105 := Lib.hid hx105
          clear hx105
          have hxi : x104.i ∈ ids N := List.mem_map.2 ⟨_, List.mem_of_getElem? Hhx105.out, rfl⟩
          have hxb := id_bd HG.out hxi
          have HXI := Lib.hid hxi
          clear hxi
          have ub98 := b98
          simp only [At, Own, Nat.reduceAdd, and_true] at ub98
          obtain ⟨g107, o108, ha109, -⟩ := (HXN.out).up kpN hB101 _ _ Hhx105.out
          subst ha109
          have ce106 := LX.at_ ((HXN.out).up kpN hB101) Hhx105.out
          have ce106_ : g107 < wr102.heap.size := World.block_lt_of_cell? _ _ ce106.1
          have uce106 := ce106
          simp only [CN, ndc, At, Nat.reduceMul] at uce106
          have K110 := Lib.hid (fun W (hv : NV W (.agg #[.slice (some ⟨g107, o108, none⟩) Nn cn, .slice Ar Nr cr]) N) => own_list (lreach_any N x104.i _ W hv HG.out))
          go_wp2_with (fail)
          refine calls_named ?_
          intro W10 hW10
          have hL10 : Below wr102.heap.size wr102 W10 := by
            rw [hW10]
            repeat (first | with_reducible exact Below.refl _ _ | with_reducible refine bel_alloc ?_ _ | refine Below.setCell ?_ (by first | (simp; done) | (simp; omega) | omega) _)
          have c111 := b98.up hL10
          have O112 := Lib.hid (MapI.up O103.out hL10)
          have hA113 := bel_up hA100 hL10
          have hB114 : Below w.heap.size w W10 := by
            rw [hW10]
            repeat (first | with_reducible exact hB101 | with_reducible refine bel_alloc ?_ _ | refine Below.setCell ?_ (by first | (simp; done) | (simp; omega) | omega) _)
          clear hW10 hL10 ub98 uce106 b98 hA100
          with_reducible refine (K110.out _ (HNV.out.up hB114)).mono ?_
          rintro e w10 ⟨v10, rfl, hv10, hb10⟩
          have c115 := c111.up hb10
          have O116 := Lib.hid (MapI.up O112.out hb10)
          have hA117 := bel_up hA113 hb10
          have hB118 : Below w.heap.size w w10 := bel_up hB114 hb10
          clear c111 O112 hA113
          have PW10 := Lib.hid hv10
          clear hv10
          go_wp2_with fail
          go_loopw [13] (fun s13 wr => ∃ (q : Nat), s13 = .int .i64 q ∧ Own wr (w1.heap.size) 0 [.slice (some ⟨g107, o108, none⟩) Nn cn, .slice Ar Nr cr] ∧ MapI wr w.heap.size W5.heap.size T F ∧ Below w3.heap.size w3 wr ∧ Below w10.heap.size w10 wr ∧ Below w.heap.size w wr ∧ q ≤ Nn) (fun s13 _ => Nn - (intOf s13).toNat)
          case atStart => exact ⟨0, rfl, c115, O116.out, hA117, Below.refl _ _, hB118, (by omega)⟩
          case round =>
            clear c115 hB118 O116 hA117
            obtain ⟨q, rfl, b119, o120, hA121, hA122, hB123, hq⟩ := hrel
            obtain ⟨wr124, hwr124⟩ : ∃ W_, W_ = wr := ⟨_, rfl⟩
            subst hwr124
            have O125 := Lib.hid o120
            clear o120
            by_cases hltq : q < Nn
            · skip
              have i1q : (q : Int) < Nn := by omega
              obtain ⟨x126, hx127⟩ : ∃ x, N.ns[q]? = some x := ⟨_, List.getElem?_eq_getElem (by rw [HNn.out]; omega)⟩
              have Hhx127 := Lib.hid hx127
              clear hx127
              have hyi : x126.i ∈ ids N := List.mem_map.2 ⟨_, List.mem_of_getElem? Hhx127.out, rfl⟩
              have hyb := id_bd HG.out hyi
              have hiff := HGF.out.iff HG.out (by rw [HNg.out]; omega) HXI.out hyi
              have hfn := HGF.out.ne HG.out (by rw [HNg.out]; omega) HXI.out
              obtain ⟨fx, hfx⟩ : ∃ z, F x104.i = z := ⟨_, rfl⟩
              obtain ⟨fy, hfy⟩ : ∃ z, F x126.i = z := ⟨_, rfl⟩
              rw [hfx] at hfn
              rw [hfx, hfy] at hiff
              have HFX := Lib.hid hfx
              have HFY := Lib.hid hfy
              have hfn_ : (((fx : Int)) == 0) = false := by simpa using hfn
              clear hyi hfx hfy
              obtain ⟨m1, hm1⟩ : ∃ c, decide (x126.i ∈ reachE N x104.i) = c := ⟨_, rfl⟩
              obtain ⟨m2, hm2⟩ : ∃ c, decide (x104.i ∈ reachE N x126.i) = c := ⟨_, rfl⟩
              have HM1 := Lib.hid hm1
              have HM2 := Lib.hid hm2
              obtain ⟨fe, hfe⟩ : ∃ c, ((fx : Int) == fy) = c := ⟨_, rfl⟩
              have hfm : fe = (m1 && m2) := by
                rw [← hfe, ← hm1, ← hm2, Bool.eq_iff_iff]
                simp [hiff]
              clear hm1 hm2 hiff
              cases m1
              · skip
                have hfm2 : fe = false := by rw [hfm]; rfl
                subst hfm2
                clear hfm
                have ub119 := b119
                simp only [At, Own, Nat.reduceAdd, and_true] at ub119
                have ce128 := LX.at_ ((HXN.out).up kpN hB123) Hhx127.out
                have ce128_ : g107 < wr124.heap.size := World.block_lt_of_cell? _ _ ce128.1
                have uce128 := ce128
                simp only [CN, ndc, At, Nat.reduceMul] at uce128
                have K129 := Lib.hid (fun W vv (ha : IL W vv (reachE N x104.i)) => lhas_is (reachE N x104.i) x126.i false vv W ha (reach_1024 HG.out _) HM1.out)
                go_wp2_with fail
                refine wp_named ?_
                intro W11 hW11
                have hL11 : Below wr124.heap.size wr124 W11 := by
                  rw [hW11]
                  repeat (first | with_reducible exact Below.refl _ _ | with_reducible refine bel_alloc ?_ _ | refine Below.setCell ?_ (by first | (simp; done) | (simp; omega) | omega) _)
                have c130 := b119.up hL11
                have O131 := Lib.hid (MapI.up O125.out hL11)
                have hA132 := bel_up hA121 hL11
                have hA133 := bel_up hA122 hL11
                have hB134 : Below w.heap.size w W11 := by
                  rw [hW11]
                  repeat (first | with_reducible exact hB123 | with_reducible refine bel_alloc ?_ _ | refine Below.setCell ?_ (by first | (simp; done) | (simp; omega) | omega) _)
                clear hW11 hL11 ub119 uce128 b119 hA121 hA122
                have dc130 := fun p : Bel W11 => c130.bel p
                simp only [At, Own, Nat.reduceAdd, and_true] at dc130
                have HLKx : ∀ p : Bel W11, (Instr.lookup 60 (.map (some (W5.heap.size))) (.int .i64 x104.i) false).run Tryz.prog p.w1 = .ok (.int .i64 fx) p.w1 := fun p => (HFX.out ▸ (O131.out.up p.h).lookup x104.i (wf_k (by omega)))
                have HLKy : ∀ p : Bel W11, (Instr.lookup 60 (.map (some (W5.heap.size))) (.int .i64 x126.i) false).run Tryz.prog p.w1 = .ok (.int .i64 fy) p.w1 := fun p => (HFY.out ▸ (O131.out.up p.h).lookup x126.i (wf_k (by omega)))
                refine wp_region_all (by kernel_rfl) (by kernel_rfl) ?_
                repeat (go_big_quiet_step (first | (go_at_call 28; with_reducible exact Calls.bel (K129.out _ _ ((PW10.out.up hA133).up (Bel.h _))))))
                refine wpQuiet_nil ?_
                intro w11 hb11
                have c135 := c130.up hb11
                have O136 := Lib.hid (MapI.up O131.out hb11)
                have hA137 := bel_up hA132 hb11
                have hA138 := bel_up hA133 hb11
                have hB139 : Below w.heap.size w w11 := bel_up hB134 hb11
                clear dc130 c130 O131 hA132 hA133
                have uc135 := c135
                simp only [At, Own, Nat.reduceAdd, and_true] at uc135
                go_wp2
                go_roundw
                case rel => exact ⟨(q + 1), (by first | rfl | exact congrArg (Value.int .i64) (by omega) | simp [*]), (by repeat (first | with_reducible exact c135 | refine Own.far _ _ (by simp <;> omega) ?_ | with_reducible refine Own.alloc ?_ _)), (by repeat (first | with_reducible exact O136.out | refine MapI.far ?_ _ (by first | exact f25) _ | with_reducible refine MapI.alloc ?_ _)), (by repeat (first | with_reducible exact hA137 | with_reducible refine bel_alloc ?_ _ | refine Below.setCell ?_ (by first | (simp; done) | (simp; omega) | omega) _)), (by repeat (first | with_reducible exact hA138 | with_reducible refine bel_alloc ?_ _ | refine Below.setCell ?_ (by first | (simp; done) | (simp; omega) | omega) _)), (by repeat (first | with_reducible exact hB139 | with_reducible refine bel_alloc ?_ _ | refine Below.setCell ?_ (by first | (simp; done) | (simp; omega) | omega) _)), (by omega)⟩
                case measure => simp [intOf] <;> omega
              · skip
                cases m2
                · skip
                  have hfm2 : fe = false := by rw [hfm]; rfl
                  subst hfm2
                  clear hfm
                  have ub119 := b119
                  simp only [At, Own, Nat.reduceAdd, and_true] at ub119
                  have ce140 := LX.at_ ((HXN.out).up kpN hB123) Hhx127.out
                  have ce140_ : g107 < wr124.heap.size := World.block_lt_of_cell? _ _ ce140.1
                  have uce140 := ce140
                  simp only [CN, ndc, At, Nat.reduceMul] at uce140
                  go_upto_region 29 with fail
                  refine wp_named ?_
                  intro W12 hW12
                  have hL12 : Below wr124.heap.size wr124 W12 := by
                    rw [hW12]
                    repeat (first | with_reducible exact Below.refl _ _ | with_reducible refine bel_alloc ?_ _ | refine Below.setCell ?_ (by first | (simp; done) | (simp; omega) | omega) _)
                  have c141 := b119.up hL12
                  have O142 := Lib.hid (MapI.up O125.out hL12)
                  have hA143 := bel_up hA121 hL12
                  have hA144 := bel_up hA122 hL12
                  have hB145 : Below w.heap.size w W12 := by
                    rw [hW12]
                    repeat (first | with_reducible exact hB123 | with_reducible refine bel_alloc ?_ _ | refine Below.setCell ?_ (by first | (simp; done) | (simp; omega) | omega) _)
                  clear hW12 hL12 ub119 uce140 b119 hA121 hA122
                  have K147 := Lib.hid (fun W vv (ha : IL W vv (reachE N x104.i)) => lhas_is (reachE N x104.i) x126.i true vv W ha (reach_1024 HG.out _) HM1.out)
                  have K148 := Lib.hid (fun W (hv : NV W (.agg #[.slice (some ⟨g107, o108, none⟩) Nn cn, .slice Ar Nr cr]) N) => own_list (lreach_any N x126.i _ W hv HG.out))
                  have K149 := Lib.hid (fun W vv (ha : IL W vv (reachE N x126.i)) => lhas_is (reachE N x126.i) x104.i false vv W ha (reach_1024 HG.out _) HM2.out)
                  refine wp_region_hold 13 15 152 (.bool false) (fun v_ w_ => IL w_ v_ ((reachE N x126.i))) (by kernel_rfl) rfl rfl (by kernel_rfl) (by simp) (by intro e_ h_; cases h_; simp) (fun _ _ _ h_ hb_ => h_.up hb_) ?_
                  intro V_146 hV_146
                  have vc141 := c141.up hV_146; have dc141 := fun p : Bel V_146 => vc141.bel p
                  simp only [At, Own, Nat.reduceAdd, and_true] at dc141
                  have hBV_146 := bel_up hB145 hV_146
                  have hA150 := bel_up hA143 hV_146
                  have hA151 := bel_up hA144 hV_146
                  have HLKx : ∀ p : Bel V_146, (Instr.lookup 60 (.map (some (W5.heap.size))) (.int .i64 x104.i) false).run Tryz.prog p.w1 = .ok (.int .i64 fx) p.w1 := fun p => (HFX.out ▸ (O142.out.up (bel_up hV_146 p.h)).lookup x104.i (wf_k (by omega)))
                  have HLKy : ∀ p : Bel V_146, (Instr.lookup 60 (.map (some (W5.heap.size))) (.int .i64 x126.i) false).run Tryz.prog p.w1 = .ok (.int .i64 fy) p.w1 := fun p => (HFY.out ▸ (O142.out.up (bel_up hV_146 p.h)).lookup x126.i (wf_k (by omega)))
                  simp only [maskL, mask2, Nat.reduceAdd, Nat.reduceEqDiff, reduceCtorEq, reduceIte]
                  repeat (go_big_quiet_step (first | (go_at_call 28; with_reducible exact Calls.bel (K147.out _ _ ((PW10.out.up hA151).up (Bel.h _))))))
                  refine wpQuiet_nil ?_
                  refine ⟨⟨fun V1_ hV1_ => ?_, fun V1_ v1_ hV1_ hv1_ => ?_⟩, ?_⟩
                  · go_wp2_with (go_at_call 25; with_reducible refine (K148.out _ (HNV.out.up (bel_up hB145 hV1_))).mono ?_; rintro e w2_ ⟨vv_, rfl, hvv_, hbq_⟩)
                    all_goals exact ⟨vv_, rfl, rfl, hbq_, hvv_⟩
                  · go_wp2_with (go_at_call 28; with_reducible refine (K149.out _ _ hv1_).mono ?_; rintro e w2_ ⟨rfl, hbq_⟩)
                    all_goals exact ⟨_, rfl, rfl, rfl, hbq_⟩
                  intro vh_146 wn_146 hbn_146 hf_146
                  clear hf_146 HLKy HLKx hA151 hA150 hBV_146 dc141 vc141 hV_146 V_146
                  simp only [Act.put, List.setIfInBounds_toArray, List.set_cons_zero, List.set_cons_succ]
                  have c152 := c141.up hbn_146
                  have O153 := Lib.hid (MapI.up O142.out hbn_146)
                  have hA154 := bel_up hA143 hbn_146
                  have hA155 := bel_up hA144 hbn_146
                  have hB156 : Below w.heap.size w wn_146 := bel_up hB145 hbn_146
                  clear c141 O142 hA143 hA144
                  have uc152 := c152
                  simp only [At, Own, Nat.reduceAdd, and_true] at uc152
                  go_wp2
                  go_roundw
                  case rel => exact ⟨(q + 1), (by first | rfl | exact congrArg (Value.int .i64) (by omega) | simp [*]), (by repeat (first | with_reducible exact c152 | refine Own.far _ _ (by simp <;> omega) ?_ | with_reducible refine Own.alloc ?_ _)), (by repeat (first | with_reducible exact O153.out | refine MapI.far ?_ _ (by first | exact f25) _ | with_reducible refine MapI.alloc ?_ _)), (by repeat (first | with_reducible exact hA154 | with_reducible refine bel_alloc ?_ _ | refine Below.setCell ?_ (by first | (simp; done) | (simp; omega) | omega) _)), (by repeat (first | with_reducible exact hA155 | with_reducible refine bel_alloc ?_ _ | refine Below.setCell ?_ (by first | (simp; done) | (simp; omega) | omega) _)), (by repeat (first | with_reducible exact hB156 | with_reducible refine bel_alloc ?_ _ | refine Below.setCell ?_ (by first | (simp; done) | (simp; omega) | omega) _)), (by omega)⟩
                  case measure => simp [intOf] <;> omega
                · skip
                  have hfm2 : fe = true := by rw [hfm]; rfl
                  subst hfm2
                  clear hfm
                  have ub119 := b119
                  simp only [At, Own, Nat.reduceAdd, and_true] at ub119
                  have ce157 := LX.at_ ((HXN.out).up kpN hB123) Hhx127.out
                  have ce157_ : g107 < wr124.heap.size := World.block_lt_of_cell? _ _ ce157.1
                  have uce157 := ce157
                  simp only [CN, ndc, At, Nat.reduceMul] at uce157
                  go_upto_region 29 with fail
                  refine wp_named ?_
                  intro W13 hW13
                  have hL13 : Below wr124.heap.size wr124 W13 := by
                    rw [hW13]
                    repeat (first | with_reducible exact Below.refl _ _ | with_reducible refine bel_alloc ?_ _ | refine Below.setCell ?_ (by first | (simp; done) | (simp; omega) | omega) _)
                  have c158 := b119.up hL13
                  have O159 := Lib.hid (MapI.up O125.out hL13)
                  have hA160 := bel_up hA121 hL13
                  have hA161 := bel_up hA122 hL13
                  have hB162 : Below w.heap.size w W13 := by
                    rw [hW13]
                    repeat (first | with_reducible exact hB123 | with_reducible refine bel_alloc ?_ _ | refine Below.setCell ?_ (by first | (simp; done) | (simp; omega) | omega) _)
                  clear hW13 hL13 ub119 uce157 b119 hA121 hA122
                  have K164 := Lib.hid (fun W vv (ha : IL W vv (reachE N x104.i)) => lhas_is (reachE N x104.i) x126.i true vv W ha (reach_1024 HG.out _) HM1.out)
                  have K165 := Lib.hid (fun W (hv : NV W (.agg #[.slice (some ⟨g107, o108, none⟩) Nn cn, .slice Ar Nr cr]) N) => own_list (lreach_any N x126.i _ W hv HG.out))
                  have K166 := Lib.hid (fun W vv (ha : IL W vv (reachE N x126.i)) => lhas_is (reachE N x126.i) x104.i true vv W ha (reach_1024 HG.out _) HM2.out)
                  refine wp_region_hold 13 15 152 (.bool true) (fun v_ w_ => IL w_ v_ ((reachE N x126.i))) (by kernel_rfl) rfl rfl (by kernel_rfl) (by simp) (by intro e_ h_; cases h_; simp) (fun _ _ _ h_ hb_ => h_.up hb_) ?_
                  intro V_163 hV_163
                  have vc158 := c158.up hV_163; have dc158 := fun p : Bel V_163 => vc158.bel p
                  simp only [At, Own, Nat.reduceAdd, and_true] at dc158
                  have hBV_163 := bel_up hB162 hV_163
                  have hA167 := bel_up hA160 hV_163
                  have hA168 := bel_up hA161 hV_163
                  have HLKx : ∀ p : Bel V_163, (Instr.lookup 60 (.map (some (W5.heap.size))) (.int .i64 x104.i) false).run Tryz.prog p.w1 = .ok (.int .i64 fx) p.w1 := fun p => (HFX.out ▸ (O159.out.up (bel_up hV_163 p.h)).lookup x104.i (wf_k (by omega)))
                  have HLKy : ∀ p : Bel V_163, (Instr.lookup 60 (.map (some (W5.heap.size))) (.int .i64 x126.i) false).run Tryz.prog p.w1 = .ok (.int .i64 fy) p.w1 := fun p => (HFY.out ▸ (O159.out.up (bel_up hV_163 p.h)).lookup x126.i (wf_k (by omega)))
                  simp only [maskL, mask2, Nat.reduceAdd, Nat.reduceEqDiff, reduceCtorEq, reduceIte]
                  repeat (go_big_quiet_step (first | (go_at_call 28; with_reducible exact Calls.bel (K164.out _ _ ((PW10.out.up hA168).up (Bel.h _))))))
                  refine wpQuiet_nil ?_
                  refine ⟨⟨fun V1_ hV1_ => ?_, fun V1_ v1_ hV1_ hv1_ => ?_⟩, ?_⟩
                  · go_wp2_with (go_at_call 25; with_reducible refine (K165.out _ (HNV.out.up (bel_up hB162 hV1_))).mono ?_; rintro e w2_ ⟨vv_, rfl, hvv_, hbq_⟩)
                    all_goals exact ⟨vv_, rfl, rfl, hbq_, hvv_⟩
                  · go_wp2_with (go_at_call 28; with_reducible refine (K166.out _ _ hv1_).mono ?_; rintro e w2_ ⟨rfl, hbq_⟩)
                    all_goals exact ⟨_, rfl, rfl, rfl, hbq_⟩
                  intro vh_163 wn_163 hbn_163 hf_163
                  clear hf_163 HLKy HLKx hA168 hA167 hBV_163 dc158 vc158 hV_163 V_163
                  simp only [Act.put, List.setIfInBounds_toArray, List.set_cons_zero, List.set_cons_succ]
                  have c169 := c158.up hbn_163
                  have O170 := Lib.hid (MapI.up O159.out hbn_163)
                  have hA171 := bel_up hA160 hbn_163
                  have hA172 := bel_up hA161 hbn_163
                  have hB173 : Below w.heap.size w wn_163 := bel_up hB162 hbn_163
                  clear c158 O159 hA160 hA161
                  have uc169 := c169
                  simp only [At, Own, Nat.reduceAdd, and_true] at uc169
                  go_wp2
                  go_roundw
                  case rel => exact ⟨(q + 1), (by first | rfl | exact congrArg (Value.int .i64) (by omega) | simp [*]), (by repeat (first | with_reducible exact c169 | refine Own.far _ _ (by simp <;> omega) ?_ | with_reducible refine Own.alloc ?_ _)), (by repeat (first | with_reducible exact O170.out | refine MapI.far ?_ _ (by first | exact f25) _ | with_reducible refine MapI.alloc ?_ _)), (by repeat (first | with_reducible exact hA171 | with_reducible refine bel_alloc ?_ _ | refine Below.setCell ?_ (by first | (simp; done) | (simp; omega) | omega) _)), (by repeat (first | with_reducible exact hA172 | with_reducible refine bel_alloc ?_ _ | refine Below.setCell ?_ (by first | (simp; done) | (simp; omega) | omega) _)), (by repeat (first | with_reducible exact hB173 | with_reducible refine bel_alloc ?_ _ | refine Below.setCell ?_ (by first | (simp; done) | (simp; omega) | omega) _)), (by omega)⟩
                  case measure => simp [intOf] <;> omega
            · skip
              have i1q : ¬ (q : Int) < Nn := by omega
              have ub119 := b119
              simp only [At, Own, Nat.reduceAdd, and_true] at ub119
              go_wp2
              go_roundw
              case rel => exact ⟨(p + 1), (by first | rfl | exact congrArg (Value.int .i64) (by omega) | simp [*]), (by repeat (first | with_reducible exact b119 | refine Own.far _ _ (by simp <;> omega) ?_ | with_reducible refine Own.alloc ?_ _)), (by repeat (first | with_reducible exact O125.out | refine MapI.far ?_ _ (by first | exact f25) _ | with_reducible refine MapI.alloc ?_ _)), (by repeat (first | with_reducible exact hA121 | with_reducible refine bel_alloc ?_ _ | refine Below.setCell ?_ (by first | (simp; done) | (simp; omega) | omega) _)), (by repeat (first | with_reducible exact hB123 | with_reducible refine bel_alloc ?_ _ | refine Below.setCell ?_ (by first | (simp; done) | (simp; omega) | omega) _)), (by omega)⟩
              case measure => simp [intOf] <;> omega
        · skip
          have i1p : ¬ (p : Int) < Nn := by omega
          have ub98 := b98
          simp only [At, Own, Nat.reduceAdd, and_true] at ub98
          go_wp2
          go_ret
          exact ⟨rfl, bel_up hBw (by repeat (first | with_reducible exact hB101 | with_reducible refine bel_alloc ?_ _ | refine Below.setCell ?_ (by first | (simp; done) | (simp; omega) | omega) _))⟩
end Go.Proofs.YtldfencaoaikgaaGreatDoor
