/-
 Contracts of package integer: products and sums of signed integers.
 Contracts of package integer: signed integers from machine integers, and compared.
 Blocks of the call's own behind stores and new blocks.
-/
import Derived.Test.YtdkkjfnpinckjaaGreatDoorYMc
import Derived.Test.YtdkkjfnpinckjaaGreatDoorYMa
set_option maxRecDepth 100000
set_option linter.unusedSimpArgs false
set_option linter.unusedVariables false
namespace Go.Proofs.YtdkkjfnpinckjaaGreatDoor
open Go Go.RowKit

theorem mul_sign (a b:Int):(!(ng a==ng b)&&decide (a.natAbs*b.natAbs≠0))=ng (a*b):=by
 unfold ng;rcases Int.lt_trichotomy a 0 with h|rfl|h<;>rcases Int.lt_trichotomy b 0 with k|rfl|k
 ·have:=Int.mul_pos_of_neg_of_neg h k
  rw [decide_eq_true h,decide_eq_true k,decide_eq_false (by omega:¬ a*b<0)];rfl
 ·simp
 ·have:=Int.mul_neg_of_neg_of_pos h k
  rw [decide_eq_true h,decide_eq_false (by omega:¬ b<0),decide_eq_true this,decide_eq_true (Nat.mul_ne_zero (by omega) (by omega))];rfl
 ·simp
 ·simp
 ·simp
 ·have:=Int.mul_neg_of_pos_of_neg h k
  rw [decide_eq_true k,decide_eq_false (by omega:¬ a<0),decide_eq_true this,decide_eq_true (Nat.mul_ne_zero (by omega) (by omega))];rfl
 ·simp
 ·have:=Int.mul_pos h k
  rw [decide_eq_false (by omega:¬ a<0),decide_eq_false (by omega:¬ b<0),decide_eq_false (by omega:¬ a*b<0)];rfl

theorem add_sign_same {a b:Int} (h:ng a=ng b):(ng a&&decide (a.natAbs+b.natAbs≠0))=ng (a+b)∧(a+b).natAbs=a.natAbs+b.natAbs:=by
 unfold ng at *;rw [Bool.eq_iff_iff] at h ⊢;simp only [decide_eq_true_eq,Bool.and_eq_true] at *;omega
theorem add_sign_far {a b:Int} (h:ng a≠ng b) (hc:b.natAbs≤a.natAbs):(ng a&&decide (a.natAbs-b.natAbs≠0))=ng (a+b)∧(a+b).natAbs=a.natAbs-b.natAbs:=by
 unfold ng at *;rw [Bool.eq_iff_iff];simp only [ne_eq,decide_eq_true_eq,Bool.and_eq_true,decide_eq_decide] at *;omega
theorem add_sign_near {a b:Int} (h:ng a≠ng b) (hc:a.natAbs<b.natAbs):(ng b&&decide (b.natAbs-a.natAbs≠0))=ng (a+b)∧(a+b).natAbs=b.natAbs-a.natAbs:=by
 unfold ng at *;rw [Bool.eq_iff_iff];simp only [ne_eq,decide_eq_true_eq,Bool.and_eq_true,decide_eq_decide] at *;omega

theorem imul_any (a:Int) (b:Int) (w:World) (ha:Pl.L a.natAbs≤67108864) (hb:Pl.L b.natAbs≤67108864) :
 Calls Tryz.prog 120 #[iv a,iv b] w fun e w'=>e=.returned (iv (a*b))∧Below w.heap.size w w':=by
 have H:=Lib.hid (fun W=>mul_any a.natAbs b.natAbs W ha hb);clear ha hb;go_enter Tryz.func120,Tryz.ntmps120;go_wp2_with fail;refine wp_named ?_;intro W1 hW;have c1_0_0:W1.cell? ⟨w.heap.size,0,none⟩=some (.bool (ng (a))):=by rw [hW];simp [go_sem]
 have c1_0_1:W1.cell? ⟨w.heap.size,1,none⟩=some (.string (mg (a).natAbs)):=by rw [hW];simp [go_sem]
 have c1_1_0:W1.cell? ⟨w.heap.size+1,0,none⟩=some (.bool (ng (b))):=by rw [hW];simp [go_sem]
 have c1_1_1:W1.cell? ⟨w.heap.size+1,1,none⟩=some (.string (mg (b).natAbs)):=by rw [hW];simp [go_sem]
 have r1_0_0:W1.cell? ⟨w.heap.size+2,0,none⟩=some (.bool false):=by rw [hW];simp [go_sem]
 have fr1_0_0:W1.frozen? ⟨w.heap.size+2,0,none⟩=false:=by rw [hW];simp [go_sem]
 have r1_0_1:W1.cell? ⟨w.heap.size+2,1,none⟩=some (.string ⟨#[]⟩):=by rw [hW];simp [go_sem]
 have fr1_0_1:W1.frozen? ⟨w.heap.size+2,1,none⟩=false:=by rw [hW];simp [go_sem]
 have hB1:Below w.heap.size w W1:=by rw [hW];exact (by repeat (first|with_reducible exact Below.refl _ _|refine Below.drew ?_|refine Below.alloc ?_ (by first|(simp;done)|(simp;omega)|omega) _|refine Below.setCell ?_ (by first|(simp;done)|(simp;omega)|omega) _))
 clear hW;have dc1_0_0:=Bel.cell c1_0_0;have dc1_0_1:=Bel.cell c1_0_1;have dc1_1_0:=Bel.cell c1_1_0;have dc1_1_1:=Bel.cell c1_1_1;clear c1_0_0 c1_0_1 c1_1_0 c1_1_1;refine wp_region_tail 11 (by kernel_rfl) (by kernel_rfl) ?_;simp only [List.take_succ_cons,List.take_zero,List.drop_succ_cons,List.drop_zero];repeat (go_big_quiet_step ((first|(go_at_call 140;exact Calls.bel (H.out _))|(go_at_call 135;exact Calls.bel (made_any _ _ _)))))
 refine wpQuiet_nil ?_;intro w1 hb1;have er1_0_0:w1.cell? _=_:=Bel.cell r1_0_0 ⟨w1,hb1⟩;have gr1_0_0:w1.frozen? _=_:=Bel.frozen r1_0_0 fr1_0_0 ⟨w1,hb1⟩;have er1_0_1:w1.cell? _=_:=Bel.cell r1_0_1 ⟨w1,hb1⟩;have gr1_0_1:w1.frozen? _=_:=Bel.frozen r1_0_1 fr1_0_1 ⟨w1,hb1⟩;clear dc1_0_0 dc1_0_1 dc1_1_0 dc1_1_1 r1_0_0 r1_0_1 fr1_0_0 fr1_0_1;go_wp2;refine bodyPost_ret (v:=.agg #[.bool (!(ng a==ng b)&&decide (a.natAbs*b.natAbs≠0)),.string (mg (a.natAbs*b.natAbs))]) (by simp [results,Tryz.results120,go_sem,er1_0_0,er1_0_1]) rfl ⟨by rw [iv,← mul_sign,Int.natAbs_mul],?_⟩;repeat (refine Below.setCell ?_ (by first|(simp;done)|(simp;omega)|omega) _)
 exact bel_up hB1 hb1

theorem iadd_same (a:Int) (b:Int) (w:World) (ha:Pl.L a.natAbs≤67108864) (hb:Pl.L b.natAbs≤67108864) (h:ng a=ng b) :
 Calls Tryz.prog 123 #[iv a,iv b] w fun e w'=>e=.returned (iv (a+b))∧Below w.heap.size w w':=by
 have H:=Lib.hid (fun W=>add_any a.natAbs b.natAbs W ha hb);have HS:=Lib.hid (add_sign_same h);have hd:(ng a==ng b)=true:=by rw [h];simp
 clear ha hb h;go_enter Tryz.func123,Tryz.ntmps123;go_wp2_with fail;refine wp_named ?_;intro W1 hW;have c1_0_0:W1.cell? ⟨w.heap.size,0,none⟩=some (.bool (ng (a))):=by rw [hW];simp [go_sem]
 have c1_0_1:W1.cell? ⟨w.heap.size,1,none⟩=some (.string (mg (a).natAbs)):=by rw [hW];simp [go_sem]
 have c1_1_0:W1.cell? ⟨w.heap.size+1,0,none⟩=some (.bool (ng (b))):=by rw [hW];simp [go_sem]
 have c1_1_1:W1.cell? ⟨w.heap.size+1,1,none⟩=some (.string (mg (b).natAbs)):=by rw [hW];simp [go_sem]
 have r1_0_0:W1.cell? ⟨w.heap.size+2,0,none⟩=some (.bool false):=by rw [hW];simp [go_sem]
 have fr1_0_0:W1.frozen? ⟨w.heap.size+2,0,none⟩=false:=by rw [hW];simp [go_sem]
 have r1_0_1:W1.cell? ⟨w.heap.size+2,1,none⟩=some (.string ⟨#[]⟩):=by rw [hW];simp [go_sem]
 have fr1_0_1:W1.frozen? ⟨w.heap.size+2,1,none⟩=false:=by rw [hW];simp [go_sem]
 have hB1:Below w.heap.size w W1:=by rw [hW];exact (by repeat (first|with_reducible exact Below.refl _ _|refine Below.drew ?_|refine Below.alloc ?_ (by first|(simp;done)|(simp;omega)|omega) _|refine Below.setCell ?_ (by first|(simp;done)|(simp;omega)|omega) _))
 clear hW;have dc1_0_0:=Bel.cell c1_0_0;have dc1_0_1:=Bel.cell c1_0_1;have dc1_1_0:=Bel.cell c1_1_0;have dc1_1_1:=Bel.cell c1_1_1;clear c1_0_0 c1_0_1 c1_1_0 c1_1_1;refine wp_region_tail 8 (by kernel_rfl) (by kernel_rfl) ?_;simp only [List.take_succ_cons,List.take_zero,List.drop_succ_cons,List.drop_zero];repeat (go_big_quiet_step ((first|(go_at_call 141;exact Calls.bel (H.out _))|(go_at_call 135;exact Calls.bel (made_any _ _ _)))))
 refine wpQuiet_nil ?_;intro w1 hb1;have er1_0_0:w1.cell? _=_:=Bel.cell r1_0_0 ⟨w1,hb1⟩;have gr1_0_0:w1.frozen? _=_:=Bel.frozen r1_0_0 fr1_0_0 ⟨w1,hb1⟩;have er1_0_1:w1.cell? _=_:=Bel.cell r1_0_1 ⟨w1,hb1⟩;have gr1_0_1:w1.frozen? _=_:=Bel.frozen r1_0_1 fr1_0_1 ⟨w1,hb1⟩;clear dc1_0_0 dc1_0_1 dc1_1_0 dc1_1_1 r1_0_0 r1_0_1 fr1_0_0 fr1_0_1;go_wp2;refine bodyPost_ret (v:=.agg #[.bool (ng a&&decide (a.natAbs+b.natAbs≠0)),.string (mg (a.natAbs+b.natAbs))]) (by simp [results,Tryz.results123,go_sem,er1_0_0,er1_0_1]) rfl ⟨by rw [iv,HS.out.1,HS.out.2],?_⟩;repeat (refine Below.setCell ?_ (by first|(simp;done)|(simp;omega)|omega) _)
 exact bel_up hB1 hb1

theorem iadd_far (a:Int) (b:Int) (w:World) (ha:Pl.L a.natAbs≤67108864) (hb:Pl.L b.natAbs≤67108864) (h:ng a≠ng b) (hab:b.natAbs≤a.natAbs) :
 Calls Tryz.prog 123 #[iv a,iv b] w fun e w'=>e=.returned (iv (a+b))∧Below w.heap.size w w':=by
 have H:=Lib.hid (fun W=>sub_any a.natAbs b.natAbs W ha hab);have HS:=Lib.hid (add_sign_far h hab);have hd:(ng a==ng b)=false:=by simpa using h
 obtain ⟨z,hz,hz0⟩:∃ z:Int,cmpZ (a.natAbs:Nat) (b.natAbs:Nat)=z∧0≤z:=⟨_,rfl,by unfold cmpZ;rw [if_neg (by omega)];split<;>omega⟩
 have hcc:=fun W=>compare_any a.natAbs b.natAbs W
 rw [hz] at hcc;have hC:=Lib.hid hcc;clear ha hb h hab hcc hz;go_enter Tryz.func123,Tryz.ntmps123;go_wp2_with fail;refine (hC.out _).mono ?_;rintro e W0 ⟨rfl,hB0⟩;obtain ⟨hc0,hf0⟩:=bcell hB0;go_wp2_with fail;refine wp_named ?_;intro W1 hW;have c1_0_0:W1.cell? ⟨w.heap.size,0,none⟩=some (.bool (ng (a))):=by rw [hW];simp [go_sem,hc0,hf0]
 have c1_0_1:W1.cell? ⟨w.heap.size,1,none⟩=some (.string (mg (a).natAbs)):=by rw [hW];simp [go_sem,hc0,hf0]
 have c1_1_0:W1.cell? ⟨w.heap.size+1,0,none⟩=some (.bool (ng (b))):=by rw [hW];simp [go_sem,hc0,hf0]
 have c1_1_1:W1.cell? ⟨w.heap.size+1,1,none⟩=some (.string (mg (b).natAbs)):=by rw [hW];simp [go_sem,hc0,hf0]
 have r1_0_0:W1.cell? ⟨w.heap.size+2,0,none⟩=some (.bool false):=by rw [hW];simp [go_sem,hc0,hf0]
 have fr1_0_0:W1.frozen? ⟨w.heap.size+2,0,none⟩=false:=by rw [hW];simp [go_sem,hc0,hf0]
 have r1_0_1:W1.cell? ⟨w.heap.size+2,1,none⟩=some (.string ⟨#[]⟩):=by rw [hW];simp [go_sem,hc0,hf0]
 have fr1_0_1:W1.frozen? ⟨w.heap.size+2,1,none⟩=false:=by rw [hW];simp [go_sem,hc0,hf0]
 have hB1:Below w.heap.size w W1:=by rw [hW];exact bel_up (by repeat (first|with_reducible exact Below.refl _ _|refine Below.drew ?_|refine Below.alloc ?_ (by first|(simp;done)|(simp;omega)|omega) _|refine Below.setCell ?_ (by first|(simp;done)|(simp;omega)|omega) _)) hB0
 clear hW;have dc1_0_0:=Bel.cell c1_0_0;have dc1_0_1:=Bel.cell c1_0_1;have dc1_1_0:=Bel.cell c1_1_0;have dc1_1_1:=Bel.cell c1_1_1;clear c1_0_0 c1_0_1 c1_1_0 c1_1_1;refine wp_region_tail 8 (by kernel_rfl) (by kernel_rfl) ?_;simp only [List.take_succ_cons,List.take_zero,List.drop_succ_cons,List.drop_zero];repeat (go_big_quiet_step ((first|(go_at_call 142;exact Calls.bel (H.out _))|(go_at_call 135;exact Calls.bel (made_any _ _ _)))))
 refine wpQuiet_nil ?_;intro w1 hb1;have er1_0_0:w1.cell? _=_:=Bel.cell r1_0_0 ⟨w1,hb1⟩;have gr1_0_0:w1.frozen? _=_:=Bel.frozen r1_0_0 fr1_0_0 ⟨w1,hb1⟩;have er1_0_1:w1.cell? _=_:=Bel.cell r1_0_1 ⟨w1,hb1⟩;have gr1_0_1:w1.frozen? _=_:=Bel.frozen r1_0_1 fr1_0_1 ⟨w1,hb1⟩;clear dc1_0_0 dc1_0_1 dc1_1_0 dc1_1_1 r1_0_0 r1_0_1 fr1_0_0 fr1_0_1;go_wp2;refine bodyPost_ret (v:=.agg #[.bool (ng a&&decide (a.natAbs-b.natAbs≠0)),.string (mg (a.natAbs-b.natAbs))]) (by simp [results,Tryz.results123,go_sem,er1_0_0,er1_0_1]) rfl ⟨by rw [iv,HS.out.1,HS.out.2],?_⟩;repeat (refine Below.setCell ?_ (by first|(simp;done)|(simp;omega)|omega) _)
 exact bel_up hB1 hb1

theorem iadd_near (a:Int) (b:Int) (w:World) (ha:Pl.L a.natAbs≤67108864) (hb:Pl.L b.natAbs≤67108864) (h:ng a≠ng b) (hab:a.natAbs<b.natAbs) :
 Calls Tryz.prog 123 #[iv a,iv b] w fun e w'=>e=.returned (iv (a+b))∧Below w.heap.size w w':=by
 have H:=Lib.hid (fun W=>sub_any b.natAbs a.natAbs W hb (Nat.le_of_lt hab));have HS:=Lib.hid (add_sign_near h hab);have hd:(ng a==ng b)=false:=by simpa using h
 have hcc:=fun W=>compare_any a.natAbs b.natAbs W
 rw [show cmpZ (a.natAbs:Nat) (b.natAbs:Nat)=-1 from by unfold cmpZ;rw [if_pos (by omega)]] at hcc;have hC:=Lib.hid hcc;clear ha hb h hab hcc;go_enter Tryz.func123,Tryz.ntmps123;go_wp2_with fail;refine (hC.out _).mono ?_;rintro e W0 ⟨rfl,hB0⟩;obtain ⟨hc0,hf0⟩:=bcell hB0;go_wp2_with fail;refine wp_named ?_;intro W1 hW;have c1_0_0:W1.cell? ⟨w.heap.size,0,none⟩=some (.bool (ng (a))):=by rw [hW];simp [go_sem,hc0,hf0]
 have c1_0_1:W1.cell? ⟨w.heap.size,1,none⟩=some (.string (mg (a).natAbs)):=by rw [hW];simp [go_sem,hc0,hf0]
 have c1_1_0:W1.cell? ⟨w.heap.size+1,0,none⟩=some (.bool (ng (b))):=by rw [hW];simp [go_sem,hc0,hf0]
 have c1_1_1:W1.cell? ⟨w.heap.size+1,1,none⟩=some (.string (mg (b).natAbs)):=by rw [hW];simp [go_sem,hc0,hf0]
 have r1_0_0:W1.cell? ⟨w.heap.size+2,0,none⟩=some (.bool false):=by rw [hW];simp [go_sem,hc0,hf0]
 have fr1_0_0:W1.frozen? ⟨w.heap.size+2,0,none⟩=false:=by rw [hW];simp [go_sem,hc0,hf0]
 have r1_0_1:W1.cell? ⟨w.heap.size+2,1,none⟩=some (.string ⟨#[]⟩):=by rw [hW];simp [go_sem,hc0,hf0]
 have fr1_0_1:W1.frozen? ⟨w.heap.size+2,1,none⟩=false:=by rw [hW];simp [go_sem,hc0,hf0]
 have hB1:Below w.heap.size w W1:=by rw [hW];exact bel_up (by repeat (first|with_reducible exact Below.refl _ _|refine Below.drew ?_|refine Below.alloc ?_ (by first|(simp;done)|(simp;omega)|omega) _|refine Below.setCell ?_ (by first|(simp;done)|(simp;omega)|omega) _)) hB0
 clear hW;have dc1_0_0:=Bel.cell c1_0_0;have dc1_0_1:=Bel.cell c1_0_1;have dc1_1_0:=Bel.cell c1_1_0;have dc1_1_1:=Bel.cell c1_1_1;clear c1_0_0 c1_0_1 c1_1_0 c1_1_1;refine wp_region_tail 8 (by kernel_rfl) (by kernel_rfl) ?_;simp only [List.take_succ_cons,List.take_zero,List.drop_succ_cons,List.drop_zero];repeat (go_big_quiet_step ((first|(go_at_call 142;exact Calls.bel (H.out _))|(go_at_call 135;exact Calls.bel (made_any _ _ _)))))
 refine wpQuiet_nil ?_;intro w1 hb1;have er1_0_0:w1.cell? _=_:=Bel.cell r1_0_0 ⟨w1,hb1⟩;have gr1_0_0:w1.frozen? _=_:=Bel.frozen r1_0_0 fr1_0_0 ⟨w1,hb1⟩;have er1_0_1:w1.cell? _=_:=Bel.cell r1_0_1 ⟨w1,hb1⟩;have gr1_0_1:w1.frozen? _=_:=Bel.frozen r1_0_1 fr1_0_1 ⟨w1,hb1⟩;clear dc1_0_0 dc1_0_1 dc1_1_0 dc1_1_1 r1_0_0 r1_0_1 fr1_0_0 fr1_0_1;go_wp2;refine bodyPost_ret (v:=.agg #[.bool (ng b&&decide (b.natAbs-a.natAbs≠0)),.string (mg (b.natAbs-a.natAbs))]) (by simp [results,Tryz.results123,go_sem,er1_0_0,er1_0_1]) rfl ⟨by rw [iv,HS.out.1,HS.out.2],?_⟩;repeat (refine Below.setCell ?_ (by first|(simp;done)|(simp;omega)|omega) _)
 exact bel_up hB1 hb1

theorem iadd_any (a b:Int) (w:World) (ha:Pl.L a.natAbs≤67108864) (hb:Pl.L b.natAbs≤67108864) :
 Calls Tryz.prog 123 #[iv a,iv b] w fun e w'=>e=.returned (iv (a+b))∧Below w.heap.size w w':=by
 by_cases h:ng a=ng b
 ·exact iadd_same a b w ha hb h
 rcases Nat.lt_or_ge a.natAbs b.natAbs with hab|hab
 ·exact iadd_near a b w ha hb h hab
 ·exact iadd_far a b w ha hb h hab
end Go.Proofs.YtdkkjfnpinckjaaGreatDoor

namespace Go.Proofs.YtdkkjfnpinckjaaGreatDoor
open Go Go.RowKit

theorem calls_named {P:Program} {f:FuncId} {args:Array Value} {w:World} {Q:Ending→World→Prop} (h:∀ W,W=w→Calls P f args W Q):Calls P f args w Q:=h w rfl
def At (w:World) (b:Nat):Nat→List Value→Prop
 | _,[]=>True
 | i,v :: l=>w.cell? ⟨b,i,none⟩=some v∧At w b (i+1) l
def Own (w:World) (b:Nat):Nat→List Value→Prop
 | _,[]=>True
 | i,v :: l=>(w.cell? ⟨b,i,none⟩=some v∧w.frozen? ⟨b,i,none⟩=false)∧Own w b (i+1) l
theorem At.up {w w1:World} {b:Nat} : ∀ {l:List Value} {i:Nat},At w b i l→Below w.heap.size w w1→At w1 b i l
 | [],_,_,_=>trivial
 | _ :: _,_,h,hb=>⟨(hb.cell (World.block_lt_of_cell? _ _ h.1)).trans h.1,At.up h.2 hb⟩
theorem Own.up {w w1:World} {b:Nat} : ∀ {l:List Value} {i:Nat},Own w b i l→Below w.heap.size w w1→Own w1 b i l
 | [],_,_,_=>trivial
 | _ :: _,_,h,hb=>⟨⟨(hb.cell (World.block_lt_of_cell? _ _ h.1.1)).trans h.1.1,(hb.frozen (World.block_lt_of_cell? _ _ h.1.1)).trans h.1.2⟩,Own.up h.2 hb⟩
theorem At.bel {W:World} {b i:Nat} {l:List Value} (h:At W b i l) (p:Bel W):At p.w1 b i l:=h.up p.h
theorem Own.bel {W:World} {b i:Nat} {l:List Value} (h:Own W b i l) (p:Bel W):Own p.w1 b i l:=h.up p.h
theorem At.lt {w:World} {b i:Nat} {v:Value} {l:List Value} (h:At w b i (v :: l)):b<w.heap.size:=World.block_lt_of_cell? _ _ h.1
theorem Own.lt {w:World} {b i:Nat} {v:Value} {l:List Value} (h:Own w b i (v :: l)):b<w.heap.size:=World.block_lt_of_cell? _ _ h.1.1
theorem wrap_neg (n:Int) (h1 : -9223372036854775808≤n) (h2:n<0):IntKind.u64.wrap (-IntKind.u64.wrap n)=(n.natAbs:Int):=by
 simp [IntKind.wrap,IntKind.bits,IntKind.signed];have e:n%18446744073709551616=n+18446744073709551616:=by omega
 rw [e];have e2:(n.natAbs:Int)=-n:=by omega
 rw [e2];have e3 : -(n+18446744073709551616)=-n+(-1)*18446744073709551616:=by omega
 rw [e3,Int.add_mul_emod_self_right];exact Int.emod_eq_of_lt (by omega) (by omega)

theorem fromInt_neg (n:Int) (w:World) (h1 : -9223372036854775808≤n) (keep:n<0) :
 Calls Tryz.prog 118 #[.int .i64 n] w fun e w'=>e=.returned (iv n)∧Below w.heap.size w w':=by
 have h2:=keep;have E:=Lib.hid (wrap_neg n h1 h2);have E2:Hid ((true&&decide (n.natAbs≠0))=ng n):=Lib.hid (by unfold ng;rw [Bool.eq_iff_iff];simp;omega);have K1:=Lib.hid (fun W=>magnitude_any n.natAbs W (by omega));have K2:=Lib.hid (fun W=>made_any true n.natAbs W);clear h1;go_enter Tryz.func118,Tryz.ntmps118;go_wp2_with fail;rw [E.out];refine calls_named ?_;intro W1 hW1;have c1_0:Own W1 w.heap.size 0 [.bool false,.string ⟨#[]⟩]:=by rw [hW1];simp [Own,go_sem]
 have hB1:Below w.heap.size w W1:=by rw [hW1];exact bB
 clear hW1;have uc1_0:=c1_0;simp only [At,Own,Nat.reduceAdd,and_true] at uc1_0;with_reducible refine (K1.out _).mono ?_
 rintro e w1 ⟨rfl,hb1⟩;have c1_0x:=c1_0.up hb1;have hDw1:Below w.heap.size w w1:=bel_up hB1 hb1;clear uc1_0 c1_0;have uc1_0x:=c1_0x;simp only [At,Own,Nat.reduceAdd,and_true] at uc1_0x
 -- NE
 go_wp2_with fail;refine calls_named ?_;intro W2 hW2;have hL2:Below w1.heap.size w1 W2:=by rw [hW2];exact bB
 have c2_0:=c1_0x.up hL2;have hB2:Below w.heap.size w W2:=by rw [hW2];exact bB
 clear hW2 hL2 uc1_0x c1_0x;have uc2_0:=c2_0;simp only [At,Own,Nat.reduceAdd,and_true] at uc2_0;with_reducible refine (K2.out _).mono ?_
 rintro e w2 ⟨rfl,hb2⟩;have c2_0x:=c2_0.up hb2;have hDw2:Below w.heap.size w w2:=bel_up hB2 hb2;clear uc2_0 c2_0;have uc2_0x:=c2_0x;simp only [At,Own,Nat.reduceAdd,and_true] at uc2_0x
 -- NE
 go_wp2;refine bodyPost_ret (v:=.agg #[.bool (true&&decide (n.natAbs≠0)),.string (mg n.natAbs)]) (by simp [results,Tryz.results118,go_sem,uc2_0x]) rfl ⟨by rw [iv,E2.out],?_⟩;exact bB

theorem fromInt_pos (n:Nat) (w:World) (h1:n≤9223372036854775807) :
 Calls Tryz.prog 118 #[.int .i64 n] w fun e w'=>e=.returned (iv n)∧Below w.heap.size w w':=by
 have E:Hid (IntKind.u64.wrap (n:Int)=n):=Lib.hid (IntWalk.u64_in _ ⟨by omega,by omega⟩);have E2:Hid ((decide ((n:Int)<0)&&decide (n≠0))=ng (n:Int)):=Lib.hid (by unfold ng;rw [Bool.eq_iff_iff];simp;omega);have K1:=Lib.hid (fun W=>magnitude_any n W (by omega));have K2:=Lib.hid (fun W=>made_any (decide ((n:Int)<0)) n W);clear h1;go_enter Tryz.func118,Tryz.ntmps118;go_wp2_with fail;rw [E.out];refine calls_named ?_;intro W1 hW1;have c1_0:Own W1 w.heap.size 0 [.bool false,.string ⟨#[]⟩]:=by rw [hW1];simp [Own,go_sem]
 have hB1:Below w.heap.size w W1:=by rw [hW1];exact bB
 clear hW1;have uc1_0:=c1_0;simp only [At,Own,Nat.reduceAdd,and_true] at uc1_0;with_reducible refine (K1.out _).mono ?_
 rintro e w1 ⟨rfl,hb1⟩;have c1_0x:=c1_0.up hb1;have hDw1:Below w.heap.size w w1:=bel_up hB1 hb1;clear uc1_0 c1_0;have uc1_0x:=c1_0x;simp only [At,Own,Nat.reduceAdd,and_true] at uc1_0x
 -- NE
 go_wp2_with fail;refine calls_named ?_;intro W2 hW2;have hL2:Below w1.heap.size w1 W2:=by rw [hW2];exact bB
 have c2_0:=c1_0x.up hL2;have hB2:Below w.heap.size w W2:=by rw [hW2];exact bB
 clear hW2 hL2 uc1_0x c1_0x;have uc2_0:=c2_0;simp only [At,Own,Nat.reduceAdd,and_true] at uc2_0;with_reducible refine (K2.out _).mono ?_
 rintro e w2 ⟨rfl,hb2⟩;have c2_0x:=c2_0.up hb2;have hDw2:Below w.heap.size w w2:=bel_up hB2 hb2;clear uc2_0 c2_0;have uc2_0x:=c2_0x;simp only [At,Own,Nat.reduceAdd,and_true] at uc2_0x
 -- NE
 go_wp2;refine bodyPost_ret (v:=.agg #[.bool (decide ((n:Int)<0)&&decide (n≠0)),.string (mg n)]) (by simp [results,Tryz.results118,go_sem,uc2_0x]) rfl ⟨by rw [iv,E2.out];rfl,?_⟩;exact bB

theorem fromInt_any (n:Int) (w:World) (h1 : -9223372036854775808≤n) (h2:n≤9223372036854775807) :
 Calls Tryz.prog 118 #[.int .i64 n] w fun e w'=>e=.returned (iv n)∧Below w.heap.size w w':=by
 rcases Int.lt_or_le n 0 with h|h
 ·exact fromInt_neg n w h1 h
 ·obtain ⟨m,rfl⟩:=Int.eq_ofNat_of_zero_le h
  exact fromInt_pos m w (by omega)

theorem calls_same {P:Program} {f:FuncId} {args:Array Value} {w:World} {v:Value} (h:Calls P f args w fun e w'=>e=.returned v∧w=w'):Calls P f args w fun e w'=>e=.returned v∧Below w.heap.size w w' :=
 h.mono fun _ _ ⟨h1,h2⟩=>⟨h1,h2▸Below.refl _ _⟩
theorem cmp_far {a b:Int} (h:ng a≠ng b):cmpZ a.sign b.sign=cmpZ a b:=by
 unfold ng at h
 rcases Int.lt_trichotomy a 0 with h1|rfl|h1<;>rcases Int.lt_trichotomy b 0 with h2|rfl|h2 <;>
  simp_all [cmpZ,Int.sign_eq_one_of_pos,Int.sign_eq_neg_one_of_neg]<;>omega
theorem cmp_pos {a b:Int} (h:ng a=false) (h2:ng b=false):cmpZ a.natAbs b.natAbs=cmpZ a b:=by
 unfold ng at *;simp only [decide_eq_false_iff_not] at *;rw [show (a.natAbs:Int)=a by omega,show (b.natAbs:Int)=b by omega]
theorem cmp_neg {a b:Int} (h:ng a=true) (h2:ng b=true) : -cmpZ a.natAbs b.natAbs=cmpZ a b:=by
 unfold ng at *;simp only [decide_eq_true_eq] at *;unfold cmpZ
 split<;>rename_i h3
 ·rw [if_neg (by omega),if_pos (by omega)];rfl
 ·split<;>rename_i h4
  ·rw [if_pos (by omega)]
  ·rw [if_neg (by omega),if_neg (by omega)];rfl
theorem cmpZ_bd (a b:Int) : -1≤cmpZ a b∧cmpZ a b≤1:=by unfold cmpZ;split<;>(try split)<;>omega

theorem icmp_far (a:Int) (b:Int) (w:World) (h:ng a≠ng b) :
 Calls Tryz.prog 104 #[iv a,iv b] w fun e w'=>e=.returned (.int .i64 (cmpZ a b))∧Below w.heap.size w w':=by
 have hd:(!(ng a==ng b))=true:=by simpa using h
 have E:=Lib.hid (cmp_far h);have K1:=Lib.hid (fun W=>sign_any a W);have K2:=Lib.hid (fun W=>sign_any b W);have K3:=Lib.hid (fun W=>calls_same (cmpInt_any a.sign b.sign W));clear h;go_enter Tryz.func104,Tryz.ntmps104;go_wp2_with fail;refine wp_named ?_;intro W1 hW1;have c1_0:At W1 w.heap.size 0 [.bool (ng a),.string (mg a.natAbs)]:=by rw [hW1];simp [At,go_sem]
 have c1_1:At W1 (w.heap.size+1) 0 [.bool (ng b),.string (mg b.natAbs)]:=by rw [hW1];simp [At,go_sem]
 have hB1:Below w.heap.size w W1:=by rw [hW1];exact bB
 clear hW1;have dc1_0:=fun p:Bel W1=>c1_0.bel p;have dc1_1:=fun p:Bel W1=>c1_1.bel p
 simp only [At,Own,Nat.reduceAdd,and_true] at dc1_0 dc1_1;refine wp_region_tail 5 (by kernel_rfl) (by kernel_rfl) ?_;simp only [List.take_succ_cons,List.take_zero,List.drop_succ_cons,List.drop_zero];repeat (go_big_quiet_step (first|(go_at_call 116;with_reducible exact Calls.bel (K1.out _))|(go_at_call 116;with_reducible exact Calls.bel (K2.out _))|(go_at_call 128;with_reducible exact Calls.bel (K3.out _))))
 refine wpQuiet_nil ?_;intro w1 hb1;have c1_0x:=c1_0.up hb1;have c1_1x:=c1_1.up hb1;clear dc1_0 dc1_1 c1_0 c1_1;have hD1:Below w.heap.size w w1:=bel_up hB1 hb1;have uc1_0x:=c1_0x;have uc1_1x:=c1_1x;simp only [At,Own,Nat.reduceAdd,and_true] at uc1_0x uc1_1x
 -- NE
 go_wp2;go_ret;refine ⟨by rw [← E.out];rfl,?_⟩;exact bB

theorem icmp_pos (a:Int) (b:Int) (w:World) (h:ng a=false) (h2:ng b=false) :
 Calls Tryz.prog 104 #[iv a,iv b] w fun e w'=>e=.returned (.int .i64 (cmpZ a b))∧Below w.heap.size w w':=by
 have hd:(!(ng a==ng b))=false:=by rw [h,h2];rfl
 have E:=Lib.hid (cmp_pos h h2);have hg:=h;have hg2:=h2;obtain ⟨z,hz⟩:∃ z:Int,cmpZ (a.natAbs:Nat) (b.natAbs:Nat)=z:=⟨_,rfl⟩
 have hzb:=cmpZ_bd (a.natAbs:Nat) (b.natAbs:Nat);rw [hz] at hzb;obtain ⟨hz1,hz2⟩:=hzb;have hcc:=fun W=>compare_any a.natAbs b.natAbs W
 rw [hz] at hcc;have K0:=Lib.hid hcc;clear hcc;have E2:=Lib.hid hz;clear hz;have K1:=Lib.hid (fun W=>K0.out W);clear h h2;go_enter Tryz.func104,Tryz.ntmps104;go_wp2_with fail;refine calls_named ?_;intro W1 hW1;have c1_0:At W1 w.heap.size 0 [.bool false,.string (mg a.natAbs)]:=by rw [hW1];simp [At,go_sem]
 have c1_1:At W1 (w.heap.size+1) 0 [.bool false,.string (mg b.natAbs)]:=by rw [hW1];simp [At,go_sem]
 have hB1:Below w.heap.size w W1:=by rw [hW1];exact bB
 clear hW1;have uc1_0:=c1_0;have uc1_1:=c1_1;simp only [At,Own,Nat.reduceAdd,and_true] at uc1_0 uc1_1;with_reducible refine (K1.out _).mono ?_
 rintro e w1 ⟨rfl,hb1⟩;have c1_0x:=c1_0.up hb1;have c1_1x:=c1_1.up hb1;have hDw1:Below w.heap.size w w1:=bel_up hB1 hb1;clear uc1_0 uc1_1 c1_0 c1_1;have uc1_0x:=c1_0x;have uc1_1x:=c1_1x;simp only [At,Own,Nat.reduceAdd,and_true] at uc1_0x uc1_1x
 -- NE
 go_wp2;go_ret;refine ⟨by rw [← E.out,E2.out];rfl,?_⟩;exact bB

theorem icmp_neg (a:Int) (b:Int) (w:World) (h:ng a=true) (h2:ng b=true) :
 Calls Tryz.prog 104 #[iv a,iv b] w fun e w'=>e=.returned (.int .i64 (cmpZ a b))∧Below w.heap.size w w':=by
 have hd:(!(ng a==ng b))=false:=by rw [h,h2];rfl
 have E:=Lib.hid (cmp_neg h h2);have hg:=h;have hg2:=h2;obtain ⟨z,hz⟩:∃ z:Int,cmpZ (a.natAbs:Nat) (b.natAbs:Nat)=z:=⟨_,rfl⟩
 have hzb:=cmpZ_bd (a.natAbs:Nat) (b.natAbs:Nat);rw [hz] at hzb;obtain ⟨hz1,hz2⟩:=hzb;have hcc:=fun W=>compare_any a.natAbs b.natAbs W
 rw [hz] at hcc;have K0:=Lib.hid hcc;clear hcc;have E2:=Lib.hid hz;clear hz;have K1:=Lib.hid (fun W=>K0.out W);clear h h2;go_enter Tryz.func104,Tryz.ntmps104;go_wp2_with fail;refine calls_named ?_;intro W1 hW1;have c1_0:At W1 w.heap.size 0 [.bool true,.string (mg a.natAbs)]:=by rw [hW1];simp [At,go_sem]
 have c1_1:At W1 (w.heap.size+1) 0 [.bool true,.string (mg b.natAbs)]:=by rw [hW1];simp [At,go_sem]
 have hB1:Below w.heap.size w W1:=by rw [hW1];exact bB
 clear hW1;have uc1_0:=c1_0;have uc1_1:=c1_1;simp only [At,Own,Nat.reduceAdd,and_true] at uc1_0 uc1_1;with_reducible refine (K1.out _).mono ?_
 rintro e w1 ⟨rfl,hb1⟩;have c1_0x:=c1_0.up hb1;have c1_1x:=c1_1.up hb1;have hDw1:Below w.heap.size w w1:=bel_up hB1 hb1;clear uc1_0 uc1_1 c1_0 c1_1;have uc1_0x:=c1_0x;have uc1_1x:=c1_1x;simp only [At,Own,Nat.reduceAdd,and_true] at uc1_0x uc1_1x
 -- NE
 go_wp2;go_ret;refine ⟨by rw [← E.out,E2.out];rfl,?_⟩;exact bB

theorem icmp_any (a b:Int) (w:World) :
 Calls Tryz.prog 104 #[iv a,iv b] w fun e w'=>e=.returned (.int .i64 (cmpZ a b))∧Below w.heap.size w w':=by
 by_cases h:ng a=ng b
 ·rcases hb:ng b
  ·exact icmp_pos a b w (h.trans hb) hb
  ·exact icmp_neg a b w (h.trans hb) hb
 ·exact icmp_far a b w h
end Go.Proofs.YtdkkjfnpinckjaaGreatDoor

namespace Go.Proofs.YtdkkjfnpinckjaaGreatDoor
open Go Go.RowKit

theorem Own.alloc {w:World} {b:Nat} : ∀ {l:List Value} {i:Nat},Own w b i l→∀ o,Own (w.alloc o) b i l:=fun h o=>h.up ((Below.refl _ _).alloc (Nat.le_refl _) o)
theorem Own.far {w:World} {b:Nat} (p:Addr) (v:Value) (hne:b≠p.block):∀ {l:List Value} {i:Nat},Own w b i l→Own (w.setCell p v) b i l
 | [],_,_=>trivial
 | x :: l,i,h=>by
  refine ⟨⟨?_,?_⟩,Own.far p v hne h.2⟩
  ·exact (World.cell?_setCell_other w _ _ _ (fun e=>hne (by first|exact congrArg Addr.block e|exact (congrArg Addr.block e).symm))).trans h.1.1
  ·exact (by simp [go_sem]:(w.setCell p v).frozen? ⟨b,i,none⟩=w.frozen? ⟨b,i,none⟩).trans h.1.2
end Go.Proofs.YtdkkjfnpinckjaaGreatDoor
