/-
 A law on regions that leave their order open: new variables are laid at any time, their values are stored at any time behind them, and some calls hand back values that depend on the world, which only the stores take. Conditions: closed facts on the region's edges, by the kernel; what is known of the calls' values stands when blocks are laid and when a new variable is written.
 Regions that leave their order open and whose new variables are polygons out of calls, and points.
 Shapes: the sizes of their coordinates and of their rings. No program in sight.
-/
import Derived.Test.YtiochgoocbkckaaGreatDoorAgbs
import Derived.Test.YtiochgoocbkckaaGreatDoorAReg7
import Derived.Test.YtiochgoocbkckaaGreatDoorAgbh
import Derived.Test.YtiochgoocbkckaaGreatDoorAReg3
import Derived.Test.YtiochgoocbkckaaGreatDoorAgbn
set_option maxRecDepth 100000
set_option linter.unusedSimpArgs false
set_option linter.unusedVariables false
namespace Go.Proofs.YtiochgoocbkckaaGreatDoor
open Go Go.RowKit

section
variable {P:Program} {md:Region.Mode} {ops M:Array Oper} {W:World}

structure HeldV where
 i:Nat
 d:Nat
 F:Value→World→Prop
structure HeldOk (md:Region.Mode) (ops:Array Oper) (hs:List HeldV):Prop where
 gi:∀ z∈hs,∃ o,ops[z.i]?=some o∧o.dst=some z.d∧(∀ T,o.op≠.alloc T)∧∀ T x y,o.op≠.store T x y
 wr:∀ z∈hs,∀ (k:Nat) (o:Oper),ops[k]?=some o→k≠z.i→o.dst≠some z.d
 look:∀ z∈hs,∀ (k:Nat) (o:Oper),ops[k]?=some o→(∀ T x y,o.op≠.store T x y)→z.d∉o.looksAt ops
 ri:∀ z∈hs,∀ oi,ops[z.i]?=some oi→∀ t∈oi.looksAt ops,∀ (k:Nat) (o:Oper),ops[k]?=some o→o.dst=some t→Region.waitsFor md ops z.i k=true
 one:∀ z∈hs,∀ y∈hs,z.i=y.i→z=y
def HeldAt (hs:List HeldV) (listed:Array Bool) (a:Act) (w:World):Prop:=∀ z∈hs,listed.getD z.i false=true→∃ v,a.tmps[z.d]?=some v∧z.F v w
def SmallB (w:World) (b n:Nat):Prop:=∀ k,n≤k→w.cell? ⟨b,k,none⟩=none
theorem SmallB.up {w w1:World} {b n:Nat} (h:SmallB w b n) (hb:Below w.heap.size w w1) (hl:b<w.heap.size):SmallB w1 b n:=fun k hk=>(hb.cell (p:=⟨b,k,none⟩) hl).trans (h k hk)
theorem SmallB.new {w:World} {cs:List Value} {T:TypeId} : SmallB (w.alloc (.cells cs.toArray T)) w.heap.size cs.length:=fun k hk=>by
 rw [World.cell?_alloc_at _ _ _ _ rfl]
 simpa using hk
theorem HeldAt.up {hs:List HeldV} {listed:Array Bool} {a a1:Act} {w w1:World} {i:Nat} (h:HeldAt hs listed a w) (hi:∀ z∈hs,z.i≠i) (ha:∀ z∈hs,a1.tmps[z.d]?=a.tmps[z.d]?)
 (hF:∀ z∈hs,∀ v,z.F v w→z.F v w1):HeldAt hs (listed.setIfInBounds i true) a1 w1:=fun z hz hl=>by
 rw [getD_set_ne false (Ne.symm (hi z hz))] at hl;obtain ⟨v,h1,h2⟩:=h z hz hl;exact ⟨v,by rw [ha z hz,h1],hF z hz v h2⟩

end
end Go.Proofs.YtiochgoocbkckaaGreatDoor

namespace Go.Proofs.YtiochgoocbkckaaGreatDoor
open Go Go.RowKit

end Go.Proofs.YtiochgoocbkckaaGreatDoor

namespace Go.Proofs.YtiochgoocbkckaaGreatDoor
namespace Pg
open Pl
structure ShOk (s:Shp):Prop where
 hR:∀ i,s.R i<256
 x1 : -128≤s.x
 x2:s.x≤127
 y1 : -128≤s.y
 y2:s.y≤127
 hh:s.hole<256
 hs:s.start<256
theorem szI (n:Int) (h:n.natAbs≤1000):Sz 2 (n:Rat):=sz_int ((L_le_iff _ _).2 (by omega)) (by decide)
theorem szH (n:Int) (h:n.natAbs≤1000):Sz 2 ((n:Rat)/2):=by
 have e:(n:Rat)/2=mkRat n 2:=by rw [show mkRat n 2=Rat.divInt n 2 from rfl,Rat.divInt_eq_div];rfl
 rw [e];exact sz_mkRat (by decide) ((L_le_iff _ _).2 (by omega)) (by decide)
theorem dI_bd (i:Nat) (h:i<8):(-1≤dxI i∧dxI i≤1)∧(-1≤dyI i∧dyI i≤1):=by
 obtain rfl|rfl|rfl|rfl|rfl|rfl|rfl|rfl:=(by omega:i=0∨i=1∨i=2∨i=3∨i=4∨i=5∨i=6∨i=7)<;>decide
theorem mul_seven {d r:Int} (h1 : -1≤d) (h2:d≤1) (h3:2≤r) (h4:r≤7) : -7≤d*r∧d*r≤7:=by
 obtain rfl|rfl|rfl:d=-1∨d=0∨d=1:=by omega
 all_goals omega
theorem outerS_sz {s:Shp} (h:ShOk s):∀ q∈outerS s,SzP 2 q:=by
 intro q hq;obtain ⟨i,hi,rfl⟩:=List.mem_map.1 ((turned_perm _ _ _).mem_iff.1 hq);have h8:i<8:=by simpa using (List.mem_filter.1 hi).1
 obtain ⟨⟨a,b⟩,c,d⟩:=dI_bd i h8;obtain ⟨r1,r2⟩:=rad_bd s.R i;have m1:=mul_seven a b r1 r2;have m2:=mul_seven c d r1 r2;obtain ⟨_,x1,x2,y1,y2,_,_⟩:=h;exact ⟨szI _ (by omega),szI _ (by omega)⟩
theorem holeL_sz {s:Shp} (h:ShOk s):∀ q∈holeL s,SzP 2 q:=by
 intro q hq;have hq:=(turned_perm _ _ _).mem_iff.1 hq;obtain ⟨_,x1,x2,y1,y2,_,_⟩:=h;have a1:=szI s.x (by omega);have a2:=szI s.y (by omega);have a3:=szH (2*s.x+1) (by omega);have a4:=szH (2*s.y+1) (by omega);have a5:=szH (2*s.x-1) (by omega);have a6:=szH (2*s.y-1) (by omega);unfold hole0 at hq;rcases List.mem_append.1 hq with hq|hq
 ·simp only [List.mem_cons,List.not_mem_nil,or_false] at hq
  rcases hq with rfl|rfl|rfl
  ·exact ⟨a3,a2⟩
  ·exact ⟨a1,a4⟩
  ·exact ⟨a5,a2⟩
 ·split at hq
  ·simp only [List.mem_cons,List.not_mem_nil,or_false] at hq
   subst hq;exact ⟨a1,a6⟩
  ·cases hq
theorem out0_len (R:Nat→Nat) (x y:Int):4≤(outer0 R x y).length∧(outer0 R x y).length≤8:=by
 unfold outer0;rw [List.length_map];have e:List.range 8=[0,1,2,3,4,5,6,7]:=rfl;rw [e]
 cases h1:has8 R 1<;>cases h3:has8 R 3<;>cases h5:has8 R 5<;>cases h7:has8 R 7 <;>
  simp [List.filter,h1,h3,h5,h7,show has8 R 0=true from rfl,show has8 R 2=true from rfl,show has8 R 4=true from rfl,show has8 R 6=true from rfl]
theorem outS_len (s:Shp):4≤(outerS s).length∧(outerS s).length≤8:=by unfold outerS;rw [turned_len];exact out0_len _ _ _
theorem holeS_mem {s:Shp} {r:List Pt} (h:r∈(holeS s).toList):r=holeL s:=by
 unfold holeS at h
 split at h
 ·simpa using h
 ·simp at h
theorem holeS_sz {s:Shp} (h:ShOk s):∀ r∈(holeS s).toList,∀ q∈r,SzP 2 q:=fun r hr=>holeS_mem hr▸holeL_sz h
theorem holeS_len (s:Shp):∀ r∈(holeS s).toList,r.length≤4:=fun r hr=>holeS_mem hr▸(holeL_len s).2
theorem holeS_min (s:Shp):∀ r∈(holeS s).toList,2≤r.length:=fun r hr=>holeS_mem hr▸Nat.le_trans (by decide) (holeL_len s).1
theorem holeS_one (s:Shp):(holeS s).toList.length≤1:=by
 unfold holeS;split<;>simp
end Pg
end Go.Proofs.YtiochgoocbkckaaGreatDoor
