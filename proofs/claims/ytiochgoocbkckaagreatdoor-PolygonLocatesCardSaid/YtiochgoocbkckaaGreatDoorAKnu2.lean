/-
 The long division of two rows of digits: the steps of multiply-and-subtract and of adding back.
-/
import Derived.Test.YtiochgoocbkckaaGreatDoorAgad
set_option maxRecDepth 100000
set_option linter.unusedSimpArgs false
set_option linter.unusedVariables false
namespace Go.Proofs.YtiochgoocbkckaaGreatDoor
open Go Go.RowKit Go.Shelf
namespace Pl
theorem ms_step {b n N j Z W0 D P:Nat} (i:Nat) (hb:0<b) (hi:i≤n) (hN:j+n+1≤N) (hW0:Z/b ^ j=W0) (hD:D=W0+b ^ (n+1)-P) (hle:P≤W0+b ^ (n+1)) :
 (mixD b N (Z%b ^ j+b ^ j*D) Z (j+i)).set (j+i) (D/b ^ i%b)=mixD b N (Z%b ^ j+b ^ j*D) Z (j+i+1) ∧
 ∀ d:Int,d=(Z/b ^ (j+i)%b:Nat)-(carry b D P i:Nat)-(P/b ^ i%b:Nat) →
  (d<0→d+b=(D/b ^ i%b:Nat)∧carry b D P (i+1)=1)∧(0≤d→d=(D/b ^ i%b:Nat)∧carry b D P (i+1)=0):=by
 have hs:=mixD_set b N (Z%b ^ j+b ^ j*D) Z (j+i) (by omega);rw [kn_dig b _ j i D hb (Nat.mod_lt _ (Nat.pow_pos hb))] at hs;refine ⟨hs,?_⟩;have h:=borrow_step b (W0+b ^ (n+1)) P i hb hle;rw [← hD,kn_up b W0 n i hb hi,← hW0,← kn_win] at h;exact h
theorem ab_step {b N j r D Y:Nat} (i:Nat) (hb:0<b) (hr:r<b ^ j) (hi:j+i<N) :
 (mixD b N (r+b ^ j*(D+Y)) (r+b ^ j*D) (j+i))[j+i]?=some (D/b ^ i%b) ∧
 (mixD b N (r+b ^ j*(D+Y)) (r+b ^ j*D) (j+i)).set (j+i) ((carry b D Y i+D/b ^ i%b+Y/b ^ i%b)%b)=mixD b N (r+b ^ j*(D+Y)) (r+b ^ j*D) (j+i+1):=by
 refine ⟨?_,?_⟩
 ·rw [mixD_get _ _ _ _ _ hi,kn_dig b r j i D hb hr]
 ·have hs:=mixD_set b N (r+b ^ j*(D+Y)) (r+b ^ j*D) (j+i) hi
  rw [kn_dig b r j i (D+Y) hb hr] at hs;rw [carry_digit b D Y i hb];exact hs
theorem ab_start {b N j r D Y:Nat} (hb:0<b) (hj:j≤N):mixD b N (r+b ^ j*(D+Y)) (r+b ^ j*D) j=dg b N (r+b ^ j*D):=by
 rw [Nat.mul_add,← Nat.add_assoc];exact mixD_start b N j (r+b ^ j*D) Y hb hj
theorem ms_start {b N j Z D:Nat} (hb:0<b) (hj:j≤N) :
 mixD b N (Z%b ^ j+b ^ j*D) Z j=dg b N Z:=by
 have e:∀ t,dg b j (Z%b ^ j+b ^ j*t)=dg b j Z:=fun t=>by rw [dg_low_eq b j _ t hb,dg_mod b j Z hb]
 unfold mixD;rw [e,← dg_take b N Z j hj,List.take_append_drop]
end Pl
end Go.Proofs.YtiochgoocbkckaaGreatDoor
